/- Part 5 of what FnExactParseKeymap needs. No conditions. -/
import Derived.WalkKit
import Derived.ProofKit
import Derived.OpenShut
import Derived.Carry
import Derived.ChangeSame
import Derived.Attr
import Derived.KernelRfl
import Derived.Test.YtijikmakanpmlaaGreatDoorLibD
namespace Go.Ag
set_option linter.unusedSimpArgs false
set_option linter.unusedVariables false
noncomputable section
def HN(p:Cf)(D:Fm):Prop:=∀ (args:List DV) (g:PX) (v:DV) (Q:PV→List (List PV)→Prop),D args=some (g,v)→g.den→(∀ H,Q v.enc H)→p (DV.encL args) [] Q
def fo(p:Cf)(D:HY):Prop:=∀ (args:List DV) (b:List (List DV)) (g:PX) (v:DV) (H:List (List DV)) (Q:PV→List (List PV)→Prop),D args b=some (g,v,H)→g.den→Q v.enc (Gk (Jg b H))→p (DV.encL args) (Gk b) Q
inductive ObD where
 |nv (p:Cf) (D:Fm)
 |wp (p:Cf) (D:HY)
def ObD.sound:ObD→Prop
 |.nv p D=>HN p D
 |.wp p D=>fo p D
def DOp.obs:DOp→List ObD
 |.a _ _ _=>[]
 |.aw _ _ _ _=>[]
 |.call _ _ p D _=>[.nv p D]
 |.mark _ _ _ _=>[]
 |.callp _ _ p D _=>[.wp p D]
 |.callv _ _ p D _ _ _=>[.wp p D]
 |.fz _=>[]
 |.clm _ _ _=>[]
 |.fzb _ _=>[]
def SJ:List DOper→List ObD
 |[]=>[]
 |o::r=>o.op.obs++SJ r
def DCode.obs:DCode→List ObD
 |.skip=>[]
 |.region ops=>SJ ops
 |.regionU ops=>SJ ops
 |.seq _ a b=>a.obs++b.obs
 |.cond _ a b=>a.obs++b.obs
 |.block _ a=>a.obs
 |.loop _ _ a=>a.obs
 |.exit _=>[]
 |.ret=>[]
def AllD:List ObD→Prop
 |[]=>True
 |o::r=>o.sound∧AllD r
theorem AllD.app:∀ {a b:List ObD},AllD (a++b)→AllD a∧AllD b
 |[],_,h=>⟨trivial,h⟩
 |_::_,_,⟨h1,h2⟩=>⟨⟨h1,(AllD.app h2).1⟩,(AllD.app h2).2⟩
theorem Tn{d:DS}{s:PS}(hs:ES d s):∀ (args:List Opnd),G1 (Ep d.sl args)=true→args.map (·.pev s.sl)=DV.encL (Ep d.sl args)
 |[],_=>rfl
 | x::r,h=>by
   simp only[Ep,G1,Ai] at h
   simp only[Bs,Ep,DV.encL,Tn hs r h.2]
   rw[(x.dev_ev hs).of (by intro e;rw[e] at h;cases h.1)]
theorem Ml:∀ (l:List PV),l.any PV.hasPtr=PV.hasPtrL l
 |[]=>rfl
 |v::r=>by simp only[List.any_cons,PV.hasPtrL,Ml r]
theorem S8:∀ (l:List PV),l.map PV.fz=PV.fzL l
 |[]=>rfl
 |v::r=>by simp only[Bs,PV.fzL,S8 r]
theorem VU:∀ (l:List PV),(l.all fun v=>!v.hold)=!PV.holdL l
 |[]=>rfl
 |v::r=>by simp only[ET,PV.holdL,VU r,Bool.not_or]
mutual
theorem cZ:∀ (v:DV),v.deep=true→v.enc.deep=true
 |.undef,_|.bool _,_|.int _ _,_|.str _,_|.ifc _,_|.ptr _ _,_=>rfl
 |.nil q,h=>by cases q<;>first|rfl|cases h
 | .sl q r l,h=>by
   rw[DV.deep,Ai] at h
   obtain⟨h,h2⟩:=h
   cases q<;>first|(cases h;done)|exact VP r l h2
 |.agg cs,h=>Vf cs h
 |.tup cs,h=>Vf cs h
theorem Vf:∀ (l:List DV),DV.deepL l=true→PV.deepL (DV.encL l)=true
 |[],_=>rfl
 | v::r,h=>by
   simp only[DV.deepL,Ai] at h
   simp only[DV.encL,PV.deepL,cZ v h.1,Vf r h.2,CG]
end
theorem Wo(v:DV):v.enc.retc=v.retc:=by
 cases v<;>first|rfl|skip
 case nil q=>cases q<;>rfl
 case sl q r l=>cases q<;>rfl
theorem dY:∀ (l:List DV),Et (DV.encL l)=HV l
 |[]=>rfl
 |v::r=>by simp only[DV.encL,Et,HV,Wo v,dY r]
theorem tP(v:DV):v.enc.retok=v.retok:=by
 cases v<;>first|rfl|skip
 case nil q=>exact Wo (.nil q)
 case sl q r l=>exact Wo (.sl q r l)
 case agg cs=>exact dY cs
theorem tH{d:DS}{s:PS}(x:Opnd)(h:ES d s)(hk:∀ n,x= .t n→Bb d.sl n≠.any):ES (Ei x d).2 (fzOut x s).2:=by
 cases x with
 |c v=>exact h
 | t n=>
   simp only[Ei,Qf,fzOut,TL];have hg:=(h.sl.get n).of (hk n rfl);rw[hg,HC,tP];by_cases ho:(Bb d.sl n).own=true
   · simp only[ho,AE];by_cases hr:(Bb d.sl n).retok=true
     · rw[Ab hr,Ab hr,← SM];exact⟨(h.sl.put n (.inr rfl)).clr _,h.bx,h.hp⟩
     · rw[Ad hr,Ad hr];exact h
   · simp only[ho];exact h
theorem ZK(v:DV):∀ (l:List DC) (k n:Nat),Bb l n= .any→k≠n→Bb (C0 l k v) n= .any
 |[],_,_,_,_=>rfl
 |_::_,0,0,_,hn=>absurd rfl hn
 |_::_,0,_+1,h,_=>h
 |_::_,_+1,0,h,_=>h
 |_::r,k+1,n+1,h,hn=>ZK v r k n h (by simpa using hn)
theorem ZJ(hd:Hd):∀ (l:List DC) (n:Nat),Bb l n= .any→Bb (CH hd l) n= .any
 |[],_,_=>rfl
 | c::_,0,h=>by
   have h:c.v= .any:=h
   simp only[CH,h,DV.bor,AF,AU,Bb]
 |_::r,n+1,h=>ZJ hd r n h
theorem ov(x:Opnd)(d:DS)(n:Nat)(h:Bb d.sl n= .any):Bb (Ei x d).2.sl n= .any:=by
 cases x with
 |c v=>exact h
 | t k=>
   simp only[Ei,Qf];split
   · rename_i ho;split
     · refine ZJ _ _ _ (ZK _ _ _ _ h ?_);rintro rfl;rw[h] at ho;cases ho
     · exact h
   · exact h
theorem ZT:∀ (args:List Opnd) (d:DS) (n:Nat),Bb d.sl n= .any→Bb (DU args d).sl n= .any
 |[],_,_,h=>h
 |x::r,d,n,h=>ZT r _ n (ov x d n h)
theorem RX:∀ (args:List Opnd) {d:DS} {s:PS},ES d s→(∀ x∈args,x.dev (DU args d).sl≠.any)→ES (DU args d) (fzArgs args s)
 |[],_,_,h,_=>h
 | x::r,d,s,h,hk=>by
   refine RX r (tH x h fun n hx hn=>?_) fun y hy=>hk y (List.mem_cons_of_mem _ hy)
   subst hx
   exact hk (.t n) (Xd ..) (ZT (.t n::r) d n hn)
theorem Rx{sl:List DC}:∀ {args:List Opnd},G1 (Ep sl args)=true→∀ x∈args,x.dev sl≠.any
 |[],_,_,hx=>by cases hx
 | a::r,h,x,hx=>by
   simp only[Ep,G1,Ai] at h
   rcases BO.mp hx with rfl|hx
   · intro e;rw[e] at h;cases h.1
   · exact Rx h.2 x hx
theorem DS.fzArgs_chg:∀ (args:List Opnd) (d:DS),ChgS d (DU args d)
 |[],d=>ChgS.refl d
 |x::r,d=>(ChgS.fzOut x d).trans (DS.fzArgs_chg r _)
section
variable {E:AExit} {D':DS}
def Qc(E:AExit)(D':DS)(K:DS→DT)(k:PS→Prop):Prop:=∀ d s,ES d s→(K d).ok.den→(K d).lf=some (E,D')→k s
theorem vi{A B:Type}(e:A=B)(h:List A=List B)(x:A)(l:List A):h.mp (x::l)=e.mp x::h.mp l:=by subst e;rfl
theorem vY{A B:Type}(e:A=B)(h:List A=List B):h.mp []=[]:=by subst e;rfl
theorem um{A A' B B':Type}(e1:A=A')(e2:B=B')(h:(A×B)=(A'×B'))(x:A×B):h.mp x=(e1.mp x.1,e2.mp x.2):=by subst e1;subst e2;rfl
mutual
theorem gA:∀ (t:CT) (x:t.D),CT.enc t.nrm ((CT.D_nrm t).symm.mp x)=(CT.enc t x).ownr
 |.int _,_|.bool,_|.str,_|.ifc,_=>rfl
 | .sl r,l=>by
   show PV.sl .own _=PV.sl .own _
   rw[← SF r l];rfl
 | .slf r,l=>by
   show PV.sl .own _=PV.sl .own _
   rw[← SF r l];rfl
theorem gb:∀ (r:RT) (x:r.D),RT.enc r.nrm ((RT.D_nrm r).symm.mp x)=PV.ownrL (RT.enc r x)
 | .one t,x=>by
   show [CT.enc t.nrm ((CT.D_nrm t).symm.mp x)]=[(CT.enc t x).ownr]
   rw[gA t x]
 | .cons t r,x=>by
   have e:=um (CT.D_nrm t).symm (RT.D_nrm r).symm (RT.D_nrm (.cons t r)).symm x
   show RT.enc (.cons t.nrm r.nrm) ((RT.D_nrm (.cons t r)).symm.mp x)=(CT.enc t x.1).ownr::PV.ownrL (RT.enc r x.2)
   rw[← gA t x.1,← gb r x.2]
   show CT.enc t.nrm ((RT.D_nrm (.cons t r)).symm.mp x).1::RT.enc r.nrm ((RT.D_nrm (.cons t r)).symm.mp x).2=_
   rw[show ((RT.D_nrm (.cons t r)).symm.mp x)=_ from e]
theorem SF:∀ (r:RT) (l:List r.D),(TI r l).map (RT.enc r.nrm)=PV.ownrE (l.map (RT.enc r))
 | r,[]=>by
   unfold TI
   rw[vY (RT.D_nrm r).symm];rfl
 | r,x::l=>by
   have i:=SF r l
   unfold TI at i ⊢
   rw[vi (RT.D_nrm r).symm,Bs,Bs,i,gb r x];rfl
end
mutual
theorem gZ:∀ (t:CT) (x:t.D),t.pl=true→(CT.enc t x).ownr=CT.enc t x
 |.int _,_,_|.bool,_,_|.str,_,_|.ifc,_,_=>rfl
 | .sl r,l,h=>by
   show PV.sl .own _=PV.sl .own _
   rw[WQ r l h]
 |.slf _,_,h=>by cases h
theorem gW:∀ (r:RT) (x:r.D),r.pl=true→PV.ownrL (RT.enc r x)=RT.enc r x
 | .one t,x,h=>by
   show [(CT.enc t x).ownr]=[CT.enc t x]
   rw[gZ t x h]
 | .cons t r,x,h=>by
   rw[RT.pl,Ai] at h
   show (CT.enc t x.1).ownr::PV.ownrL (RT.enc r x.2)=CT.enc t x.1::RT.enc r x.2
   rw[gZ t x.1 h.1,gW r x.2 h.2]
theorem WQ:∀ (r:RT) (l:List r.D),r.pl=true→PV.ownrE (l.map (RT.enc r))=l.map (RT.enc r)
 |_,[],_=>rfl
 |r,x::l,h=>by rw[Bs,PV.ownrE,gW r x h,WQ r l h]
end
theorem c8(v:DV):v.nrm1.enc=v.enc.nrm1:=by
 cases v with
 | sl q r l=>
   cases q with
   | frz=>
     show (DV.nrm1 (.sl .frz r l)).enc=PV.sl .frz _;rw[DV.nrm1];split
     · rename_i h;show PV.sl .frz _=PV.sl .frz _;rw[WQ r l h]
     · show PV.sl .frz _=PV.sl .frz _;rw[SF r l]
   |_=>rfl
 |nil q=>cases q<;>rfl
 |_=>rfl
theorem cx:∀ l:List DV,DV.encL (DV.nrmA l)=PV.nrmA (DV.encL l)
 |[]=>rfl
 |v::r=>by simp only[DV.nrmA,DV.encL,PV.nrmA,c8 v,cx r]
theorem ed(v:DV):v.nrm.enc=v.enc.nrm:=by
 cases v with
 | agg cs=>
   show PV.agg _=PV.agg _;rw[cx]
 |sl q r l=>exact c8 _
 |nil q=>cases q<;>rfl
 |_=>rfl
theorem Se:∀ l:List DV,DV.encL (DV.nrmV l)=(DV.encL l).map PV.nrm
 |[]=>rfl
 |v::r=>by simp only[DV.nrmV,DV.encL,Bs,ed v,Se r]
theorem vq{D:Fm}{p:Cf}(hp:HN p D){args:List Opnd}{d d1:DS}{s:PS}{g:PX}{v:DV}{dst:Option Nat}{k:PS→Prop}(hs:ES d s)(h:Lp D args d=some (g,v,d1))(hg:g.den)(hk:∀ s',ES (d1.put dst v) s'→k s'):Xq p args dst k s:=by
 unfold Lp at h;simp only at h;split at h
 · rename_i hc;simp only[Ai,CW] at hc;obtain⟨h1,h2⟩:=hc;split at h
   · rename_i g1 v1 hD;split at h
     · rename_i hr;simp only[Ai,CW,Cs] at hr;obtain⟨⟨hok,hnp⟩,hdp⟩:=hr;simp only[Ah,Ak] at h;obtain⟨rfl,rfl,rfl⟩:=h;have e:=Tn hs args h1;refine⟨by rw[e,Ml,Jz,h2],by rw[e];exact RA _ h1,?_⟩;rw[e,Ml,Jz,h2];simp only[AF,AU];rw[S8,← MN,← Se]
       refine hp _ _ _ _ hD hg fun H=>⟨?_,?_⟩
       · rw[Rq,hnp,VU,OE];rcases hdp with h|h
         · simp[cZ _ h]
         · simp[h]
       · rw[Rq,hnp];simp only[AF,AU];exact hk _ (hs.put dst v1)
     · cases h
   · cases h
 · cases h
theorem cw{D:Fm}{args:List Opnd}{d d1:DS}{g:PX}{v:DV}(h:Lp D args d=some (g,v,d1)):d1=d∧G1 (Ep d.sl args)=true:=by
 unfold Lp at h;simp only at h;split at h
 · rename_i hc;simp only[Ai] at hc;split at h
   · split at h
     · simp only[Ah,Ak] at h;exact⟨h.2.2.symm,hc.1⟩
     · cases h
   · cases h
 · cases h
theorem XQ(q:Ql):∀ es,(PV.sl q es).isH=q.isH'∧∀ j o,(PV.ep q es j o).isH=q.isH':=by
 intro es
 cases q with
 |bor hd p t=>cases hd<;>exact⟨rfl,fun _ _=>rfl⟩
 |pre hd p=>cases hd<;>exact⟨rfl,fun _ _=>rfl⟩
 |_=>exact⟨rfl,fun _ _=>rfl⟩
mutual
theorem ew:∀ (v:DV),v.enc.isH=v.isH
 |.nil q=>(XQ q []).1
 |.sl q r l=>(XQ q _).1
 |.ep q r l j o=>(XQ q _).2 j o
 |.agg cs=>VY cs
 |.tup vs=>VY vs
 |.any|.undef|.bool _|.int _ _|.str _|.ifc _|.box _ _|.ptr _ _=>rfl
theorem VY:∀ (l:List DV),PV.isHL (DV.encL l)=DV.isHL l
 |[]=>rfl
 |v::r=>by simp only[DV.encL,PV.isHL,DV.isHL,ew v,VY r]
end
theorem EL.clrH:∀ {a:List DC} {b:List PV},EL a b→EL (PM a) (Go.Ag.clrH b)
 |[],[],_=>trivial
 | c :: a,p::b,h=>by
   refine⟨?_,EL.clrH h.2⟩
   by_cases hc:c.v.isH=true
   · rw[Ab hc];exact .inl rfl
   · rw[Ad hc]
     rcases h.1 with h1|h1
     · exact .inl h1
     · rw[h1,ew,Ad hc];exact .inr rfl
theorem EL.all:∀ {a:List DC} {b:List PV},EL a b→DV.okL (BJ a)=true→b=DV.encL (BJ a)
 |[],[],_,_=>rfl
 | c::a,p::b,h,hk=>by
   simp only[BJ,DV.okL,Ai] at hk
   rcases h.1 with h1|h1
   · rw[h1] at hk;cases hk.1
   · simp only[BJ,DV.encL];rw[h1,EL.all h.2 hk.2]
theorem EB.all:∀ {a:List (List DC)} {b:List (List PV)},EB a b→TM (Gn a)=true→b=Gk (Gn a)
 |[],[],_,_=>rfl
 | c::a,p::b,h,hk=>by
   simp only[Gn,TM,Ai] at hk
   have hl:0<c.length:=by rw[← Sj];exact CF hk.1.1
   simp only[Gn,Gk];rw[(h.1.to hl).all hk.1.2,EB.all h.2 hk.2]
theorem EL.mix:∀ (a:List DC) (vs:List DV),EL (Lx a vs) (DV.encL (Nu (BJ a) vs))
 |[],vs=>by simp only[Lx,BJ,Nu];exact EL.news vs
 | c :: a,[]=>by
   have:∀ (a:List DC),EL a (DV.encL (BJ a)):=by
    intro a
    induction a with
    |nil=>exact trivial
    |cons x r ih=>exact⟨.inr rfl,ih⟩
   exact this (c::a)
 | c::a,v::vs=>by
   simp only[Lx,BJ,Nu];refine⟨?_,EL.mix a vs⟩;by_cases h:v.isAny=true
   · rw[Ab h,Ab h];exact .inr rfl
   · rw[Ad h,Ad h];exact .inr rfl
theorem EB.newsB:∀ (vs:List (List DV)),EB (Go.Ag.newsB vs) (Gk vs)
 |[]=>trivial
 |v::r=>⟨.inr (EL.news v),EB.newsB r⟩
theorem EB.mix:∀ (a:List (List DC)) (vs:List (List DV)),EB (LG a vs) (Gk (Jg (Gn a) vs))
 |[],vs=>by simp only[LG,Gn,Jg];exact EB.newsB vs
 | c :: a,[]=>by
   have h0:∀ (a:List DC),Lx a []=a:=by intro a;cases a<;>rfl
   have h1:∀ (a:List DC),Nu (BJ a) []=BJ a:=by intro a;cases a<;>rfl
   have:∀ (a:List (List DC)),EB a (Gk (Gn a)):=by
    intro a
    induction a with
    |nil=>exact trivial
    | cons x r ih=>
      refine⟨.inr ?_,ih⟩;have:=EL.mix x [];rw[h0,h1] at this;exact this
   exact this (c::a)
 | c::a,v::vs=>by
   simp only[LG,Gn,Jg];exact⟨.inr (EL.mix c v),EB.mix a vs⟩
theorem Vx:∀ (a:List (List DV)),(Gk a).length=a.length
 |[]=>rfl
 |_::r=>by simp only[Gk,Ay,Vx r]
theorem bP:∀ (a vs:List (List DV)),a.length≤(Jg a vs).length
 |[],_=>Ge _
 |_::_,[]=>AH _
 |_::a,_::vs=>by simp only[Jg,Ay];exact Nat.succ_le_succ (bP a vs)
theorem cE{D:HY}{p:Cf}(hp:fo p D){args:List Opnd}{d d1:DS}{s:PS}{g:PX}{v:DV}{dst:Option Nat}{k:PS→Prop}(hs:ES d s)(h:I6 D args d=some (g,v,d1))(hg:g.den)(hk:∀ s',ES (d1.put dst v) s'→k s'):PR p args dst k s:=by
 unfold I6 at h;simp only at h;split at h
 · rename_i hc;simp only[Ai,CW] at hc;obtain⟨⟨h1,h2⟩,h3⟩:=hc;have e:=Tn hs args h1;have eh:=hs.hp.all h3
   have hun:((DV.encL (Ep d.sl args)).all fun v=>!v.hold)=true:=by rw[VU,OE,h2];rfl
   split at h
   · rename_i hpt;split at h
     · rename_i g1 v1 H hD;split at h
       · rename_i hr;simp only[Ai,CW] at hr;simp only[Ah,Ak] at h;obtain⟨rfl,rfl,rfl⟩:=h;refine⟨by rw[e];exact RA _ h1,?_⟩;rw[e,Ml,Jz,hpt];simp only[AE];refine⟨hun,?_⟩;rw[S8,← MN,← Se,eh];have hE:ES { d with sl:=PM d.sl,hp:=LG d.hp H } { s with sl:=Go.Ag.clrH s.sl,hp:=Gk (Jg (Gn d.hp) H) }:=⟨hs.sl.clrH,hs.bx,EB.mix d.hp H⟩;refine hp _ _ _ _ _ _ hD hg ⟨?_,by rw[Rq];exact hr.2,hk _ (hE.put dst v1)⟩;rw[Vx,Vx];exact bP _ _
       · cases h
     · cases h
   · rename_i hpt;split at h
     · rename_i hl;have hl:d.hp=[]:=Eh (by simpa using hl);split at h
       · rename_i g1 v1 H hD;split at h
         · rename_i hr;simp only[Ah,Ak] at h;obtain⟨rfl,rfl,rfl⟩:=h
           have hv:v1= .ptr 0 0:=by
            unfold DV.isP0 at hr;split at hr
            · rfl
            · cases hr
           subst hv
           have hsl:s.hp=[]:=by rw[eh,hl];rfl
           refine⟨by rw[e];exact RA _ h1,?_⟩;rw[e,Ml,Jz];rw[Ad (by simpa using hpt)];rw[S8,← MN,← Se]
           have:=hp _ [] _ _ _ (fun r H=>(((!r.hasPtr&&r.deep)||(DV.encL (Ep d.sl args)).all fun v=>!v.hold)=true)∧k (PS.put { s with hp:=if r.hasPtr then s.hp++H else s.hp } dst (if r.hasPtr then r.shift s.hp.length else r))) hD hg ⟨by rw[hun];simp,by
            have hE:ES { d with hp:=newsB H } { s with hp:=Gk H }:=⟨hs.sl,hs.bx,EB.newsB H⟩;have:=hk _ (hE.put dst (.ptr 0 0))
            simpa [hsl,DV.enc,PV.hasPtr,PV.shift,Jg] using this⟩
           exact this
         · cases h
       · cases h
     · cases h
 · cases h
theorem c7{i c:Nat}{D:HY}{args:List Opnd}{d d1:DS}{g:PX}{v:DV}(h:PE i c D args d=some (g,v,d1)) :
 DV.hasPtrL (Ep d.sl args)=true∧(BQ d (.b i) [c]).ownS=true∧I6 D args d=some (g,v,d1):=by
 unfold PE at h
 by_cases hc:(DV.hasPtrL (Ep d.sl args)&&(BQ d (.b i) [c]).ownS)=true
 · rw[Ab hc] at h
   rw[Ai] at hc;exact⟨hc.1,hc.2,h⟩
 · rw[Ad hc] at h;cases h
theorem RP{D:HY}{args:List Opnd}{d d1:DS}{g:PX}{v:DV}(h:I6 D args d=some (g,v,d1)):ChgS d d1∧G1 (Ep d.sl args)=true:=by
 have cH:∀ (l:List DC),Chg l (PM l):=by
  intro l
  induction l with
  |nil=>trivial
  | cons c r ih=>
    refine⟨?_,ih⟩;by_cases hc:c.v.isH=true
    · rw[Ab hc];exact .inl rfl
    · rw[Ad hc];exact .inr rfl
 have cN:∀ (x:List DC) (vs:List DV),Chg x (news vs):=by
  intro x vs
  induction vs generalizing x with
  |nil=>cases x<;>trivial
  | cons v r ih=>cases x with
    |nil=>exact⟨rfl,ih []⟩
    |cons c x=>exact⟨.inl rfl,ih x⟩
 have cM:∀ (a:List DC) (vs:List DV),Chg a (Lx a vs):=by
  intro a
  induction a with
  |nil=>intro vs;exact cN [] vs
  | cons c r ih=>
    intro vs
    cases vs with
    |nil=>exact Chg.refl _
    | cons v vs=>
      refine⟨?_,ih vs⟩;by_cases h:v.isAny=true
      · rw[Ab h];exact .inr rfl
      · rw[Ad h];exact .inl rfl
 have cNB:∀ (x:List (List DC)) (vs:List (List DV)),ChgB x (newsB vs):=by
  intro x vs
  induction vs generalizing x with
  |nil=>cases x<;>trivial
  | cons v r ih=>cases x with
    |nil=>exact⟨cN _ _,ih []⟩
    |cons c x=>exact⟨cN _ _,ih x⟩
 have cMB:∀ (a:List (List DC)) (vs:List (List DV)),ChgB a (LG a vs):=by
  intro a
  induction a with
  |nil=>intro vs;exact cNB [] vs
  | cons c r ih=>
    intro vs
    cases vs with
    |nil=>exact ChgB.refl _
    |cons v vs=>exact⟨cM c v,ih vs⟩
 unfold I6 at h;simp only at h;split at h
 · rename_i hc;simp only[Ai] at hc;refine⟨?_,hc.1.1⟩;split at h
   · split at h
     · split at h
       · simp only[Ah,Ak] at h;obtain⟨_,_,rfl⟩:=h;exact⟨cH _,ChgB.refl _,cMB _ _⟩
       · cases h
     · cases h
   · split at h
     · split at h
       · split at h
         · simp only[Ah,Ak] at h;obtain⟨_,_,rfl⟩:=h;exact⟨Chg.refl _,ChgB.refl _,cNB _ _⟩
         · cases h
       · cases h
     · cases h
 · cases h
theorem eX{d:DS}{s:PS}(x:Opnd)(hs:ES d s)(hk:x.dev d.sl≠.any)(ho:(x.dev d.sl).own=false):mvOut x s=((x.dev d.sl).enc,s):=by
 cases x with
 |c v=>simp only[mvOut,Opnd.dev];rw[OY v hk]
 | t n=>
   have:=(hs.sl.get n).of hk;simp only[mvOut,Ev,this,HC,Opnd.dev] at ho ⊢;rw[Ad (by simp[ho])]
theorem To{o:DOp}(ho:AllD o.obs){dst:Option Nat}{K:DS→DT}{k:PS→Prop}(hK:Qc E D' K k):Qc E D' (B0 o dst K) (fun s=>Ch o.er dst k s):=by
 intro d s hs hok hl
 cases o with
 | call m f p D args=>
   simp only[B0] at hok hl;simp only[DOp.er,Ch]
   cases hc:Lp D args (if m=true then DU args d else d) with
   |none=>rw[hc] at hok;exact hok.elim
   | some r=>
     obtain⟨g,v,d1⟩:=r;rw[hc] at hok hl;simp only[DT.chk_ok,DT.chk_lf] at hok hl;obtain⟨e1,e2⟩:=cw hc
     have hs':ES (if m=true then DU args d else d) (if m=true then fzArgs args s else s):=by
      cases m with
      |false=>exact hs
      |true=>exact RX args hs (Rx e2)
     exact vq ho.1 hs' hc hok.1 fun s' hs'=>hK _ _ hs' hok.2 hl
 | aw ws m o ty=>
   simp only[B0] at hok hl;simp only[DOp.er,Ch]
   cases hst:Le ws m o ty d with
   |none=>rw[hst] at hok;exact hok.elim
   | some r=>
     obtain⟨g,v,d1⟩:=r;rw[hst] at hok hl;simp only[DT.chk_ok,DT.chk_lf] at hok hl;obtain⟨s',v0,e1,e2,e3⟩:=nG hs hst hok.1;simp only[e1,e2];exact hK _ _ (e3.put dst v) hok.2 hl
 | mark f M x y=>
   simp only[B0] at hok hl;simp only[DOp.er,Ch]
   cases hst:Lq M x y d with
   |none=>rw[hst] at hok;exact hok.elim
   | some r=>
     obtain⟨g,v,d1⟩:=r;rw[hst] at hok hl;simp only[DT.chk_ok,DT.chk_lf] at hok hl
     exact vx hs hst hok.1 fun s' hs'=>hK _ _ (hs'.put dst v) hok.2 hl
 | callp m f p D args=>
   simp only[B0] at hok hl;simp only[DOp.er,Ch]
   cases hc:I6 D args (if m=true then DU args d else d) with
   |none=>rw[hc] at hok;exact hok.elim
   | some r=>
     obtain⟨g,v,d1⟩:=r;rw[hc] at hok hl;simp only[DT.chk_ok,DT.chk_lf] at hok hl;obtain⟨e1,e2⟩:=RP hc
     have hs':ES (if m=true then DU args d else d) (if m=true then fzArgs args s else s):=by
      cases m with
      |false=>exact hs
      |true=>exact RX args hs (Rx e2)
     exact cE ho.1 hs' hc hok.1 fun s' hs'=>hK _ _ hs' hok.2 hl
 | callv m f p D args i c=>
   simp only[B0] at hok hl;simp only[DOp.er,Ch]
   cases hc:PE i c D args (if m=true then DU args d else d) with
   |none=>rw[hc] at hok;exact hok.elim
   | some r=>
     obtain⟨g,v,d1⟩:=r;rw[hc] at hok hl;simp only[DT.chk_ok,DT.chk_lf] at hok hl;obtain⟨hcv,e0,hc⟩:=c7 hc;obtain⟨e1,e2⟩:=RP hc
     have hs':ES (if m=true then DU args d else d) (if m=true then fzArgs args s else s):=by
      cases m with
      |false=>exact hs
      |true=>exact RX args hs (Rx e2)
     refine⟨⟨?_,?_⟩,cE ho.1 hs' hc hok.1 fun s' hs'=>hK _ _ hs' hok.2 hl⟩
     · rw[Tn hs' args e2,Ml,Jz,hcv]
     · have:=GW hs' (.b i) [c] (fun e=>by rw[e] at e0;cases e0);rw[this];unfold DV.ownS at e0;split at e0
       · rename_i r l h;rw[h];exact⟨_,rfl⟩
       · rename_i h;rw[h];exact⟨_,rfl⟩
       · cases e0
 | fz x=>
   simp only[B0] at hok hl;simp only[DOp.er,Ch];by_cases hk:(Ei x d).1.ok=true
   · rw[Ab hk] at hok hl;obtain⟨e1,e2⟩:=oR x hs hk;rw[e1,← ed];exact hK _ _ (e2.put dst _) hok hl
   · rw[Ad hk] at hok;exact hok.elim
 | fzb a o=>
   simp only[B0] at hok hl;simp only[DOp.er,Ch]
   cases hc:LA (a.dev d.sl) d with
   |none=>rw[hc] at hok;exact hok.elim
   | some d1=>
     rw[hc] at hok hl;simp only at hok hl
     cases hst:A8 false o none d1 with
     |none=>rw[hst] at hok;exact hok.elim
     | some r=>
       obtain⟨g,v,d2⟩:=r;rw[hst] at hok hl;simp only[DT.chk_ok,DT.chk_lf] at hok hl;obtain⟨s1,k1,k2⟩:=wE hs (a.dev_ev hs) hc;obtain⟨s',e1,e2⟩:=Ro k2 hst hok.1;simp only[k1,e1];exact hK _ _ (e2.put dst v) hok.2 hl
 | clm a t o=>
   simp only[B0] at hok hl;simp only[DOp.er,Ch]
   cases hc:Lw a t d with
   |none=>rw[hc] at hok;exact hok.elim
   | some r=>
     obtain⟨g0,d1⟩:=r;rw[hc] at hok hl;simp only at hok hl
     cases hst:A8 false o none d1 with
     |none=>rw[hst] at hok;exact hok.elim
     | some r=>
       obtain⟨g,v,d2⟩:=r;rw[hst] at hok hl;simp only[DT.chk_ok,DT.chk_lf] at hok hl;have hg:=(PX.land_den _ _).mp hok.1
       refine vV hs hc hg.1 fun s1 hs1=>?_
       obtain⟨s',e1,e2⟩:=Ro hs1 hst hg.2;simp only[e1];exact hK _ _ (e2.put dst v) hok.2 hl
 | a m o ty=>
   have gen:(match A8 m o ty d with|some (g,v,st)=>DT.chk' g (K (st.put dst v))|none=>DT.bad).ok.den→(match A8 m o ty d with|some (g,v,st)=>DT.chk' g (K (st.put dst v))|none=>DT.bad).lf=some (E,D')→Ch (DOp.a m o ty).er dst k s:=by
    intro hok hl
    cases hst:A8 m o ty d with
    |none=>rw[hst] at hok;exact hok.elim
    | some r=>
      obtain⟨g,v,d1⟩:=r;rw[hst] at hok hl;simp only[DT.chk_ok,DT.chk_lf] at hok hl;obtain⟨s',e1,e2⟩:=Ro hs hst hok.1;simp only[DOp.er,Ch,e1];exact hK _ _ (e2.put dst v) hok.2 hl
   cases o<;>first|exact gen hok hl|skip
   case pick c a b=>
    clear gen;simp only[B0] at hok hl;have hc:=c.dev_ev hs
    have one:∀ (x:Opnd),(match A7 x d with|(v,st)=>if v.ok=true then K (st.put dst v) else DT.bad).ok.den→(match A7 x d with|(v,st)=>if v.ok=true then K (st.put dst v) else DT.bad).lf=some (E,D')→k ((mvOut x s).2.put dst (mvOut x s).1):=by
     intro x hok hl;by_cases hv:(A7 x d).1.ok=true
     · simp only[Ab hv] at hok hl;obtain⟨m1,m2⟩:=Ee x hs hv;rw[m1];exact hK _ _ (m2.put dst _) hok hl
     · simp only[Ad hv] at hok;exact hok.elim
    cases hcv:c.dev d.sl with
    | bool t=>
      rw[hcv] at hc;have hp:=hc.of (by simp);simp only[DOp.er,Ch,A9,hp,DV.enc]
      cases t with
      | lit t=>
        rw[hcv] at hok hl
        cases t with
        |true=>exact one a hok hl
        |false=>exact one b hok hl
      | dyn t=>
        rw[hcv] at hok hl;simp only at hok hl;split at hok
        · rename_i h;rw[Ab h] at hl;have hok:=(PX.if_den _ _ _).mp hok
          cases t with
          |true=>exact one a (hok.1 rfl) hl
          |false=>exact one b (hok.2 rfl) hl
        · rename_i h;rw[Ad h] at hl;simp only[M3,CK,E0] at h;obtain⟨⟨h1,h2⟩,h3⟩:=h
          have ka:a.dev d.sl≠.any:=by
           intro e;rw[e] at h3;cases hb:b.dev d.sl<;>rw[hb] at h3<;>cases h3
          have kb:b.dev d.sl≠.any:=by
           intro e;rw[e] at h3;cases hb:a.dev d.sl<;>rw[hb] at h3<;>cases h3
          have hm:CM t (a.dev d.sl) (b.dev d.sl)≠.any:=by intro e;rw[e] at h3;cases h3
          have he:=(SV t (a.dev d.sl) (b.dev d.sl)).resolve_left hm;have:=hK _ _ (hs.put dst (CM t (a.dev d.sl) (b.dev d.sl))) hok hl;rw[he] at this;simp only[BX.b]
          cases t with
          |true=>simp only[AE,eX a hs ka h1];exact this
          |false=>simp only[AF,AU,eX b hs kb h2];exact this
    |_=>rw[hcv] at hok;exact hok.elim
theorem dS{d:DS}{s:PS}{g:Nat}{b:Bool}(hs:ES d s)(h:Aa s.sl g= .fl (.bool b)):ES (LC d g b) s:=by
 refine⟨?_,hs.bx,hs.hp⟩
 have:∀ {a:List DC} {l:List PV} (n:Nat),EL a l→Aa l n= .fl (.bool b)→EL (C0 a n (.bool (.lit b))) l:=by
  intro a
  induction a with
  |nil=>intro l n h _;exact h
  | cons c a ih=>
    intro l n h hg
    cases l with
    |nil=>exact h.elim
    | cons p l=>
      cases n with
      |zero=>exact⟨.inr hg,h.2⟩
      |succ n=>exact⟨h.1,ih n h.2 hg⟩
 exact this g hs.sl h
theorem u5{o:DOper}(ho:AllD o.op.obs){K:DS→DT}{k:PS→Prop}(hK:Qc E D' K k):Qc E D' (Nk o K) (fun s=>Gp o.er k s):=by
 intro d s hs hok hl
 have skip:∀ {d s},ES d s→(K (d.put o.dst (.tup []))).ok.den→(K (d.put o.dst (.tup []))).lf=some (E,D')→k (s.put o.dst (.tup [])):=fun hs hok hl=>hK _ _ (hs.put o.dst (.tup [])) hok hl
 unfold Nk at hok hl;unfold Gp;simp only[DOper.er]
 cases hg:o.guard with
 |none=>rw[hg] at hok hl;exact To ho hK d s hs hok hl
 | some g=>
   obtain⟨g,want⟩:=g;rw[hg] at hok hl;simp only at hok hl ⊢;have hv:=hs.sl.get g
   cases hgv:Bb d.sl g with
   | bool t=>
     rw[hgv] at hok hl hv;have hp:=hv.of (by simp);simp only[DV.enc] at hp;rw[hp];simp only
     cases t with
     | lit t=>
       simp only at hok hl;by_cases hw:t=want
       · rw[Ab (by simpa using hw)] at hok hl;rw[Ab (show (BX.lit t).b=want from hw)];exact To ho hK d s hs hok hl
       · rw[Ad (by simpa using hw)] at hok hl;rw[Ad (show ¬ (BX.lit t).b=want from hw)];exact skip hs hok hl
     | dyn t=>
       simp only[BX.b] at hp ⊢;have hok:=(PX.if_den _ _ _).mp hok;have hs2:=dS hs hp
       cases t with
       | true=>
         have hok:=hok.1 rfl;simp only[DT.lf] at hl
         cases want with
         |true=>exact To ho hK _ s hs2 hok hl
         |false=>exact skip hs2 hok hl
       | false=>
         have hok:=hok.2 rfl;simp only[DT.lf] at hl
         cases want with
         |true=>exact skip hs2 hok hl
         |false=>exact To ho hK _ s hs2 hok hl
   | tup vs=>
     cases vs with
     | nil=>
       rw[hgv] at hok hl hv;have hp:=hv.of (by simp);simp only[DV.enc,DV.encL] at hp;rw[hp];exact skip hs hok hl
     |cons v r=>rw[hgv] at hok;exact hok.elim
   |_=>rw[hgv] at hok;exact hok.elim
theorem W9:∀ (ops:List DOper),AllD (SJ ops)→∀ {k:PS→Prop},E= .normal→(∀ s,ES D' s→k s)→Qc E D' (H7 ops) (fun s=>H8 (ops.map fun o=>o.er) k s)
 | [],_,k,hE,hk=>by
   intro d s hs hok hl
   simp only[H7,DT.lf,Ah,Ak] at hl
   obtain⟨_,rfl⟩:=hl
   exact hk s hs
 | o::r,ho,k,hE,hk=>by
   obtain⟨h1,h2⟩:=ho.app
   exact u5 h1 (W9 r h2 hE hk)
end
theorem s9{o:DOp}{dst:Option Nat}{K:DS→DT}{b:DS}(hK:∀ d,ChgS b d→(K d).All (ChgS b)):∀ d,ChgS b d→(B0 o dst K d).All (ChgS b):=by
 intro d hd
 cases o with
 | call m f p D args=>
   simp only[B0]
   cases hc:Lp D args (if m=true then DU args d else d) with
   |none=>trivial
   | some r=>
     obtain⟨g,v,d1⟩:=r;obtain⟨rfl,_⟩:=cw hc;refine DT.chk_all _ (hK _ ((hd.trans ?_).trans (ChgS.put _ _ _)))
     cases m with
     |true=>exact DS.fzArgs_chg args d
     |false=>exact ChgS.refl d
 | aw ws m o ty=>
   simp only[B0]
   cases hst:Le ws m o ty d with
   |none=>trivial
   | some r=>
     obtain⟨g,v,d1⟩:=r;exact DT.chk_all _ (hK _ ((hd.trans (pP hst)).trans (ChgS.put _ _ _)))
 | mark f M x y=>
   simp only[B0]
   cases hst:Lq M x y d with
   |none=>trivial
   | some r=>
     obtain⟨g,v,d1⟩:=r;exact DT.chk_all _ (hK _ ((hd.trans (qB hst)).trans (ChgS.put _ _ _)))
 | callp m f p D args=>
   simp only[B0]
   cases hc:I6 D args (if m=true then DU args d else d) with
   |none=>trivial
   | some r=>
     obtain⟨g,v,d1⟩:=r;obtain⟨h1,_⟩:=RP hc;refine DT.chk_all _ (hK _ (((hd.trans ?_).trans h1).trans (ChgS.put _ _ _)))
     cases m with
     |true=>exact DS.fzArgs_chg args d
     |false=>exact ChgS.refl d
 | fz x=>
   simp only[B0];split
   · exact hK _ ((hd.trans (ChgS.fzOut x d)).trans (ChgS.put _ _ _))
   · trivial
 | fzb a o=>
   simp only[B0]
   cases hc:LA (a.dev d.sl) d with
   |none=>trivial
   | some d1=>
     simp only
     cases hst:A8 false o none d1 with
     |none=>trivial
     | some r=>
       obtain⟨g,v,d2⟩:=r;exact DT.chk_all _ (hK _ (((hd.trans (s8 hc)).trans (RO hst)).trans (ChgS.put _ _ _)))
 | clm a t o=>
   simp only[B0]
   cases hc:Lw a t d with
   |none=>trivial
   | some r=>
     obtain⟨g0,d1⟩:=r;simp only
     cases hst:A8 false o none d1 with
     |none=>trivial
     | some r=>
       obtain⟨g,v,d2⟩:=r;exact DT.chk_all _ (hK _ (((hd.trans (tG hc)).trans (RO hst)).trans (ChgS.put _ _ _)))
 | callv m f p D args i c=>
   simp only[B0]
   cases hc:PE i c D args (if m=true then DU args d else d) with
   |none=>trivial
   | some r=>
     obtain⟨g,v,d1⟩:=r;obtain⟨_,_,hc⟩:=c7 hc;obtain⟨h1,_⟩:=RP hc;refine DT.chk_all _ (hK _ (((hd.trans ?_).trans h1).trans (ChgS.put _ _ _)))
     cases m with
     |true=>exact DS.fzArgs_chg args d
     |false=>exact ChgS.refl d
 | a m o ty=>
   have gen:(match A8 m o ty d with|some (g,v,st)=>DT.chk' g (K (st.put dst v))|none=>DT.bad).All (ChgS b):=by
    cases hst:A8 m o ty d with
    |none=>trivial
    | some r=>
      obtain⟨g,v,d1⟩:=r;exact DT.chk_all _ (hK _ ((hd.trans (RO hst)).trans (ChgS.put _ _ _)))
   cases o<;>first|exact gen|skip
   case pick c x y=>
    simp only[B0]
    have one:∀ (x:Opnd),(match A7 x d with|(v,st)=>if v.ok=true then K (st.put dst v) else DT.bad).All (ChgS b):=by
     intro x;simp only;split
     · exact hK _ ((hd.trans (ChgS.mvOut x d)).trans (ChgS.put _ _ _))
     · trivial
    cases hcv:c.dev d.sl with
    | bool t=>
      cases t with
      |lit t=>cases t<;>exact one _
      | dyn t=>
        simp only;split
        · exact⟨one x,one y⟩
        · exact hK _ (hd.trans (ChgS.put _ _ _))
    |_=>trivial
theorem Vy(d:DS)(g:Nat)(t:Bool):ChgS d (LC d g t):=⟨Chg.put _ _ _,ChgB.refl _,ChgB.refl _⟩
theorem qG{o:DOper}{K:DS→DT}{b:DS}(hK:∀ d,ChgS b d→(K d).All (ChgS b)):∀ d,ChgS b d→(Nk o K d).All (ChgS b):=by
 intro d hd;unfold Nk;have hp:=s9 (o:=o.op) (dst:=o.dst) hK
 cases hg:o.guard with
 |none=>exact hp d hd
 | some g=>
   obtain⟨g,want⟩:=g;simp only
   cases hgv:Bb d.sl g with
   | bool t=>
     cases t with
     | lit t=>
       simp only;split
       · exact hp d hd
       · exact hK _ (hd.trans (ChgS.put _ _ _))
     | dyn t=>
       have h1:=hd.trans (Vy d g true);have h2:=hd.trans (Vy d g false)
       cases want with
       |true=>exact⟨hp _ h1,hK _ (h2.trans (ChgS.put _ _ _))⟩
       |false=>exact⟨hK _ (h1.trans (ChgS.put _ _ _)),hp _ h2⟩
   | tup vs=>
     cases vs with
     |nil=>exact hK _ (hd.trans (ChgS.put _ _ _))
     |cons v r=>trivial
   |_=>trivial
theorem VM{b:DS}:∀ (ops:List DOper) (d:DS),ChgS b d→(H7 ops d).All (ChgS b)
 |[],_,h=>h
 |_::r,d,h=>qG (VM r) d h
theorem fS:∀ (ops:List DOper) {d d':DS} {e:AExit},(H7 ops d).lf=some (e,d')→e= .normal:=by
 intro ops
 have pick : ∀ {K:DS→DT} {e:AExit} {d':DS},(∀ d,(K d).lf=some (e,d')→e= .normal)→∀ (o:DOp) (dst:Option Nat) (d:DS),(B0 o dst K d).lf=some (e,d')→e= .normal:=by
  intro K e d' hK o dst d hl
  cases o with
  | call m f p D args=>
    simp only[B0] at hl;split at hl
    · rw[DT.chk_lf] at hl;exact hK _ hl
    · cases hl
  | aw ws m o ty=>
    simp only[B0] at hl;split at hl
    · rw[DT.chk_lf] at hl;exact hK _ hl
    · cases hl
  | mark f M x y=>
    simp only[B0] at hl;split at hl
    · rw[DT.chk_lf] at hl;exact hK _ hl
    · cases hl
  | callp m f p D args=>
    simp only[B0] at hl;split at hl
    · rw[DT.chk_lf] at hl;exact hK _ hl
    · cases hl
  | fz x=>
    simp only[B0] at hl;split at hl
    · exact hK _ hl
    · cases hl
  | fzb a o=>
    simp only[B0] at hl;split at hl
    · split at hl
      · rw[DT.chk_lf] at hl;exact hK _ hl
      · cases hl
    · cases hl
  | clm a t o=>
    simp only[B0] at hl;split at hl
    · split at hl
      · rw[DT.chk_lf] at hl;exact hK _ hl
      · cases hl
    · cases hl
  | callv m f p D args i c=>
    simp only[B0] at hl;split at hl
    · rw[DT.chk_lf] at hl;exact hK _ hl
    · cases hl
  | a m o ty=>
    have gen:(match A8 m o ty d with|some (g,v,st)=>DT.chk' g (K (st.put dst v))|none=>DT.bad).lf=some (e,d')→e= .normal:=by
     intro hl;split at hl
     · rw[DT.chk_lf] at hl;exact hK _ hl
     · cases hl
    cases o<;>first|exact gen hl|skip
    case pick c x y=>
     simp only[B0] at hl
     have one:∀ (x:Opnd),(match A7 x d with|(v,st)=>if v.ok=true then K (st.put dst v) else DT.bad).lf=some (e,d')→e= .normal:=by
      intro x hl;simp only at hl;split at hl
      · exact hK _ hl
      · cases hl
     cases hcv:c.dev d.sl with
     | bool t=>
       rw[hcv] at hl
       cases t with
       |lit t=>cases t<;>exact one _ hl
       | dyn t=>
         simp only at hl;split at hl
         · cases t<;>exact one _ hl
         · exact hK _ hl
     |_=>rw[hcv] at hl;cases hl
 induction ops with
 | nil=>
   intro d d' e hl;simp only[H7,DT.lf,Ah,Ak] at hl;exact hl.1.symm
 | cons o r ih=>
   intro d d' e hl
   have hr:∀ d,(H7 r d).lf=some (e,d')→e= .normal:=fun d h=>ih h
   simp only[H7] at hl;unfold Nk at hl
   cases hg:o.guard with
   |none=>rw[hg] at hl;exact pick hr _ _ _ hl
   | some g=>
     obtain⟨g,want⟩:=g;rw[hg] at hl;simp only at hl
     cases hgv:Bb d.sl g with
     | bool t=>
       rw[hgv] at hl
       cases t with
       | lit t=>
         simp only at hl;split at hl
         · exact pick hr _ _ _ hl
         · exact hr _ hl
       | dyn t=>
         cases t<;>cases want<;>first|exact pick hr _ _ _ hl|exact hr _ hl
     | tup vs=>
       rw[hgv] at hl
       cases vs with
       |nil=>exact hr _ hl
       |cons v r=>cases hl
     |_=>rw[hgv] at hl;cases hl
theorem EL.put1{v:DV}:∀ {a:List DC} {b:List PV} (n:Nat),EL a b→EV v (Aa b n)→EL (C0 a n v) b
 |[],_,_,h,_=>h
 |_::_,[],_,h,_=>h.elim
 |_::_,_::_,0,h,hv=>⟨hv,h.2⟩
 |_::_,_::_,n+1,h,hv=>⟨h.1,EL.put1 n h.2 hv⟩
theorem EBx.put1{v:DV}{a:List DC}{b:List PV}(n:Nat)(h:EBx a b)(hv:EV v (Aa b n)):EBx (C0 a n v) b:=by
 rcases h with rfl|h
 · exact .inl rfl
 · exact .inr (h.put1 n hv)
theorem EB.put1{v:List DC}:∀ {a:List (List DC)} {b:List (List PV)} (n:Nat),EB a b→EBx v (Aj b n)→EB (D2 a n v) b
 |[],_,_,h,_=>h
 |_::_,[],_,h,_=>h.elim
 |_::_,_::_,0,h,hv=>⟨hv,h.2⟩
 |_::_,_::_,n+1,h,hv=>⟨h.1,EB.put1 n h.2 hv⟩
def PS.at(s:PS):Pl→PV
 |.s i=>Aa s.sl i
 |.b i c=>Aa (Aj s.bx i) c
 |.h i c=>Aa (Aj s.hp i) c
theorem EBx.get{a:List DC}{b:List PV}(n:Nat)(h:EBx a b):EV (Bb a n) (Aa b n):=by
 rcases h with rfl|h
 · exact .inl rfl
 · exact h.get n
theorem ES.at{d:DS}{s:PS}(h:ES d s)(pl:Pl):EV (d.at pl) (s.at pl):=by
 cases pl with
 |s i=>exact h.sl.get i
 |b i c=>exact(h.bx.get i).get c
 |h i c=>exact(h.hp.get i).get c
theorem ES.wr{d:DS}{s:PS}(h:ES d s)(pl:Pl){v:DV}(hv:EV v (s.at pl)):ES (d.wr v pl) s:=by
 cases pl with
 |s i=>exact⟨h.sl.put1 i hv,h.bx,h.hp⟩
 |b i c=>exact⟨h.sl,h.bx.put1 i ((h.bx.get i).put1 c hv),h.hp⟩
 |h i c=>exact⟨h.sl,h.bx,h.hp.put1 i ((h.hp.get i).put1 c hv)⟩
theorem WN{q:Ql}{t:CT}{v:DV}{x:t.D}(h:t.ofQ q v=some x):(t.dv q x).enc=v.enc∧v≠.any:=by
 cases t with
 | int k=>
   cases v<;>try (cases h;done)
   rename_i k' n;have h':(if IntKind.same k k'=true then some n else none)=some x:=h;clear h;split at h'
   · rename_i hk;have:=Sy hk;subst this
     have h':=CD h';subst h';exact⟨rfl,by simp⟩
   · cases h'
 | bool=>
   cases v<;>try (cases h;done)
   have h:=CD h;subst h;exact⟨rfl,by simp⟩
 | str=>
   cases v<;>try (cases h;done)
   have h:=CD h;subst h;exact⟨rfl,by simp⟩
 | ifc=>
   cases v<;>try (cases h;done)
   have h:=CD h;subst h;exact⟨rfl,by simp⟩
 |slf r=>cases v<;>cases h
 | sl r=>
   cases v<;>try (cases h;done)
   case nil q'=>
    have h':(if D8 q q'=true then some ([]:List r.D) else none)=some x:=h;clear h;split at h'
    · rename_i hq;have:=Li hq;subst this
      have h':=CD h';subst h';exact⟨rfl,by simp⟩
    · cases h'
   case sl q' r' l=>
    have h':(if D8 q q'=true then J7 (r':=r') (r:=r) l else none)=some x:=h;clear h;split at h'
    · rename_i hq;have:=Li hq;subst this
      refine⟨?_,by simp⟩;show PV.sl q _=PV.sl q _;rw[(OO h').2]
    · cases h'
theorem im:∀ {l:List (Ql×CT)} {vs:List DV} {x:AgX l},Ki l vs=some x→DV.encL (Nq l x)=DV.encL vs
 |[],[],_,_=>rfl
 | [a],[v],x,h=>by
   show [(a.2.dv a.1 x).enc]=[v.enc]
   rw[(WN (q:=a.1) (t:=a.2) h).1]
 | a :: b::r,v::vs,x,h=>by
   have h':(match a.2.ofQ a.1 v,Ki (b::r) vs with|some x,some y=>some (x,y)|_,_=>none)=some x:=h
   clear h
   cases h1:a.2.ofQ a.1 v with
   |none=>rw[h1] at h';cases h'
   | some p=>
     cases h2:Ki (b::r) vs with
     |none=>rw[h1,h2] at h';cases h'
     | some q=>
       rw[h1,h2] at h'
       have h':=CD h'
       subst h'
       show (a.2.dv a.1 p).enc::DV.encL (Nq (b::r) q)=v.enc::DV.encL vs
       rw[(WN h1).1,im h2]
theorem PY{t:HT}{v:DV}{x:t.D}(h:t.of v=some x):(t.dv x).enc=v.enc∧v≠.any:=by
 cases t with
 |one q t=>exact WN (q:=q) (t:=t) h
 | agg l=>
   cases v<;>try (cases h;done)
   rename_i cs;refine⟨?_,by simp⟩;show PV.agg _=PV.agg _;rw[im (l:=l) h]
theorem Xz{A:DS}{s:PS}(hA:ES A s):∀ (H:List Hole) {K:DS} {x:Gr H},ES K s→Kk A H=some x→ES (wrX K H x) s
 |[],K,x,hK,_=>hK
 | [a],K,x,hK,h=>by
   have h:a.t.of (A.at a.pl)=some x:=h
   obtain⟨h1,h2⟩:=PY h
   refine hK.wr a.pl (.inr ?_)
   rw[h1,(hA.at a.pl).of h2]
 | a :: b::r,K,x,hK,h=>by
   have h':(match a.t.of (A.at a.pl),Kk A (b::r) with|some x,some y=>some (x,y)|_,_=>none)=some x:=h
   clear h
   cases h1:a.t.of (A.at a.pl) with
   |none=>rw[h1] at h';cases h'
   | some p=>
     cases h2:Kk A (b::r) with
     |none=>rw[h1,h2] at h';cases h'
     | some q=>
       rw[h1,h2] at h'
       have h':=CD h'
       subst h'
       obtain⟨h3,h4⟩:=PY h1
       refine Xz hA (b::r) (x:=q) (hK.wr a.pl (.inr ?_)) h2
       rw[h3,(hA.at a.pl).of h4]
theorem gK(d:DS)(v:DV)(pl:Pl):ChgS d (d.wr v pl):=by
 cases pl with
 |s i=>exact⟨Chg.put _ _ _,ChgB.refl _,ChgB.refl _⟩
 |b i c=>exact⟨Chg.refl _,ChgB.put _ _ (Chg.put _ _ _),ChgB.refl _⟩
 |h i c=>exact⟨Chg.refl _,ChgB.refl _,ChgB.put _ _ (Chg.put _ _ _)⟩
theorem eM:∀ (H:List Hole) (d:DS) (x:Gr H),ChgS d (wrX d H x)
 |[],d,_=>ChgS.refl d
 |[a],d,_=>gK d _ _
 |a::b::r,d,x=>(gK d _ _).trans (eM (b::r) _ _)
def LeC:List DC→List DC→Prop
 |[],[]=>True
 |k::a,b::r=>(k.v= .any∨k.v=b.v)∧LeC a r
 |_,_=>False
def LeB:List (List DC)→List (List DC)→Prop
 |[],[]=>True
 |k::a,b::r=>(k=[]∨LeC k b)∧LeB a r
 |_,_=>False
structure LeS (k b:DS):Prop where
 sl:LeC k.sl b.sl
 bx:LeB k.bx b.bx
 hp:LeB k.hp b.hp
theorem LeC.refl:∀ (k:List DC),LeC k k
 |[]=>trivial
 |_::r=>⟨.inr rfl,LeC.refl r⟩
theorem LeB.refl:∀ (k:List (List DC)),LeB k k
 |[]=>trivial
 |k::r=>⟨.inr (LeC.refl k),LeB.refl r⟩
theorem LeC.put{v:DV}:∀ {k b:List DC} (n:Nat),LeC k b→Bb k n= .any→LeC k (C0 b n v)
 |[],[],_,h,_=>h
 |[],_::_,_,h,_=>h.elim
 |_::_,[],_,h,_=>h.elim
 |_::_,_::_,0,h,ha=>⟨.inl ha,h.2⟩
 |_::_,_::_,n+1,h,ha=>⟨h.1,LeC.put n h.2 ha⟩
theorem LeB.put{v:DV}:∀ {k b:List (List DC)} (i c:Nat),LeB k b→Bb (Br k i) c= .any→LeB k (D2 b i (C0 (Br b i) c v))
 |[],[],_,_,h,_=>h
 |[],_::_,_,_,h,_=>h.elim
 |_::_,[],_,_,h,_=>h.elim
 |_::_,_::_,0,c,h,ha=>⟨h.1.imp id fun h=>h.put c ha,h.2⟩
 |_::_,_::_,n+1,c,h,ha=>⟨h.1,LeB.put n c h.2 ha⟩
theorem cG{v:DV}(h:v.isAny=true):v= .any:=by cases v<;>first|rfl|cases h
theorem LeS.wr{k b:DS}{v:DV}{pl:Pl}(h:LeS k b)(ha:(k.at pl).isAny=true):LeS k (b.wr v pl):=by
 have ha:=cG ha
 cases pl with
 |s i=>exact⟨h.sl.put i ha,h.bx,h.hp⟩
 |b i c=>exact⟨h.sl,h.bx.put i c ha,h.hp⟩
 |h i c=>exact⟨h.sl,h.bx,h.hp.put i c ha⟩
theorem LeS.wrX{k:DS}:∀ (H:List Hole) {b:DS} (x:Gr H),LeS k b→MD k H=true→LeS k (Go.Ag.wrX b H x)
 |[],_,_,h,_=>h
 | [a],_,_,h,ha=>by
   simp only[MD,Ai] at ha;exact h.wr ha.1
 | a :: b::r,_,x,h,ha=>by
   have ha':(k.at a.pl).isAny=true∧MD k (b::r)=true:=by
    have:((k.at a.pl).isAny&&MD k (b::r))=true:=ha;simpa [Ai] using this
   exact LeS.wrX (b::r) _ (h.wr ha'.1) ha'.2
theorem sO{a b:DV}(h:a.same b=true):a.enc=b.enc∧b≠.any:=by
 cases a<;>cases b<;>first|(cases h;done)|skip
 case undef.undef=>exact⟨rfl,by simp⟩
 case nil.nil q q'=>have:=Li h;subst this;exact⟨rfl,by simp⟩
 case box.box=>simp only[DV.same,Ai,AV] at h;obtain⟨rfl,rfl⟩:=h;exact⟨rfl,by simp⟩
 case ptr.ptr=>simp only[DV.same,Ai,AV] at h;obtain⟨rfl,rfl⟩:=h;exact⟨rfl,by simp⟩
theorem WK:∀ {k b y:List DC} {p:List PV},P8 k y=true→LeC k b→Chg (Go.Ag.clean b) y→EL y p→EL k p
 |[],_,[],p,_,_,_,h=>h
 |[],_,_::_,_,h,_,_,_=>by cases h
 |_::_,_,[],_,h,_,_,_=>by cases h
 |_::_,[],_::_,_,_,h,_,_=>h.elim
 |_::_,_::_,_::_,[],_,_,_,h=>h.elim
 | k :: a,b::r,y::l,q::p,h,hl,hc,he=>by
   simp only[P8,Ai,Cs] at h;refine⟨?_,WK h.2 hl.2 hc.2 he.2⟩;rcases h.1 with(h1|h1)|h1
   · exact .inl (cG h1)
   · rcases hl.1 with h2|h2
     · exact .inl h2
     · rcases hc.1 with h3|h3
       · simp[h3] at h1
       · have:y.v=k.v:=by rw[h3,h2]
         rcases he.1 with h4|h4
         · exact .inl (by rw[← this];exact h4)
         · exact .inr (by rw[← this];exact h4)
   · obtain⟨h2,h3⟩:=sO h1;rcases he.1 with h4|h4
     · exact absurd h4 h3
     · exact .inr (by rw[h2];exact h4)
theorem Xc:∀ {k b y:List (List DC)} {p:List (List PV)},Qd k y=true→LeB k b→ChgB (M6 b) y→EB y p→EB k p
 |[],_,[],p,_,_,_,h=>h
 |[],_,_::_,_,h,_,_,_=>by cases h
 |_::_,_,[],_,h,_,_,_=>by cases h
 |_::_,[],_::_,_,_,h,_,_=>h.elim
 |_::_,_::_,_::_,[],_,_,_,h=>h.elim
 | k :: a,b::r,y::l,q::p,h,hl,hc,he=>by
   simp only[Qd,Ai,Cs,AV] at h
   refine⟨?_,Xc h.2 hl.2 hc.2 he.2⟩
   rcases h.1 with h1|h1
   · exact .inl (Eh h1)
   · rcases hl.1 with h2|h2
     · exact .inl h2
     · rcases he.1 with h3|h3
       · subst h3
         cases k with
         |nil=>exact .inl rfl
         |cons=>cases h1
       · exact .inr (WK h1 h2 hc.1 h3)
theorem vX{k b y:DS}{s:PS}(h:XU k y=true)(hl:LeS k b)(hc:ChgS b.clean y)(he:ES y s):ES k s:=by
 simp only[XU,Ai] at h;exact⟨WK h.1.1 hl.sl hc.sl he.sl,Xc h.1.2 hl.bx hc.bx he.bx,Xc h.2 hl.hp hc.hp he.hp⟩
theorem WZ(pl:Nat→Pl):∀ (n:Nat) (x y:List DC),Chg x (Ji pl n x y).2∧∀ p,EL x p→EL (Ji pl n x y).2 p
 |_,[],_=>⟨trivial,fun _ h=>h⟩
 |_,_::_,[]=>⟨Chg.refl _,fun _ h=>h⟩
 | n,x::a,y::b=>by
   obtain⟨h1,h2⟩:=WZ pl (n+1) a b
   simp only[Ji]
   cases hr:Ji pl (n+1) a b with
   | mk H l=>
     rw[hr] at h1 h2
     cases iF x.v y with
     |left=>exact⟨⟨.inr rfl,h1⟩,fun p h=>by cases p with|nil=>exact h|cons q p=>exact⟨h.1,h2 p h.2⟩⟩
     |hole t=>exact⟨⟨.inl rfl,h1⟩,fun p h=>by cases p with|nil=>exact h|cons q p=>exact⟨.inl rfl,h2 p h.2⟩⟩
     |kill=>exact⟨⟨.inl rfl,h1⟩,fun p h=>by cases p with|nil=>exact h|cons q p=>exact⟨.inl rfl,h2 p h.2⟩⟩
theorem WI(pl:Nat→Nat→Pl):∀ (n:Nat) (x y:List (List DC)),ChgB x (Lz pl n x y).2∧∀ p,EB x p→EB (Lz pl n x y).2 p
 |_,[],_=>⟨trivial,fun _ h=>h⟩
 |_,_::_,[]=>⟨ChgB.refl _,fun _ h=>h⟩
 | n, x :: a,y::b=>by
   obtain⟨h1,h2⟩:=WI pl (n+1) a b
   simp only[Lz]
   cases hr:Lz pl (n+1) a b with
   | mk H l=>
     rw[hr] at h1 h2
     simp only
     split
     · obtain⟨h3,h4⟩:=WZ (pl n) 0 x y
       cases hc:Ji (pl n) 0 x y with
       | mk H' x'=>
         rw[hc] at h3 h4
         exact⟨⟨h3,h1⟩,fun p h=>by
          cases p with
          |nil=>exact h
          |cons q p=>exact⟨h.1.elim (fun e=>by subst e;cases y<;>(simp only[Ji] at hc;simp only[Ak] at hc;exact .inl hc.2.symm)) fun h=>.inr (h4 q h),h2 p h.2⟩⟩
     · exact⟨⟨by cases x<;>trivial,h1⟩,fun p h=>by cases p with|nil=>exact h|cons q p=>exact⟨.inl rfl,h2 p h.2⟩⟩
theorem fK(x y:DS):ChgS x (Qa x y).2∧∀ s,ES x s→ES (Qa x y).2 s:=by
 obtain⟨h1,h2⟩:=WZ .s 0 x.sl y.sl;obtain⟨h3,h4⟩:=WI .b 0 x.bx y.bx;obtain⟨h5,h6⟩:=WI .h 0 x.hp y.hp;exact⟨⟨h1,h3,h5⟩,fun s h=>⟨h2 _ h.sl,h4 _ h.bx,h6 _ h.hp⟩⟩
theorem Wg{live:List Nat}{body:DS→DT}{A:DS}:∀ {n:Nat} {cur:DS} {H:List Hole} {K:DS},PL live body A n cur=some (H,K)→∃ Y,Qa A Y=(H,K)
 | 0,cur,H,K,h=>by
   simp only[PL] at h
   split at h
   · rename_i m _
     exact⟨_,CD h⟩
   · cases h
 | n + 1,cur,H,K,h=>by
   simp only[PL] at h
   split at h
   · split at h
     · exact Wg h
     · cases h
   · cases h
theorem Vt(live:List Nat)(d:DS):ChgS d (Du live d):=⟨Chg.keep _ _ _,ChgB.refl _,ChgB.refl _⟩
theorem qY(live:List Nat)(d:DS):ChgS d (Tq live d):=⟨Chg.trim _ _ _,ChgB.refl _,ChgB.refl _⟩
theorem vL {live:List Nat} {n:Nat} {body:DS→DT} {pb:Fl→PS→Prop} (hall:∀ d,(body d).All (ChgS d.clean))
 (hb:∀ d s e d' (k:Fl),ES d s→(body d).ok.den→(body d).lf=some (e,d')→(∀ s',ES d' s'→k e s')→pb k s)
 {d d':DS} {s:PS} {e:AExit} {k:Fl} (hs:ES d s) (hok:(M9 live n body d).ok.den) (hl:(M9 live n body d).lf=some (e,d')) (hk:∀ s',ES d' s'→k e s'):∃ n,P1 pb live k n s:=by
 have hA:ES (Du live d) { s with sl:=D1 live 0 s.sl }:=hs.keep live
 unfold M9 at hok hl
 split at hok
 · rename_i hn
   rw[Ab hn] at hl;rw[DT.map_ok] at hok;rw[DT.map_lf] at hl;obtain⟨e0,d0,h0⟩:=DT.ok_lf hok;rw[h0] at hl;simp only[BM,Ah,Ak] at hl;obtain⟨rfl,rfl⟩:=hl
   have hn:(body (Du live d)).norm= .none:=by cases h:(body (Du live d)).norm<;>rw[h] at hn<;>first|rfl|cases hn
   have he:=DT.norm_none hn h0;refine⟨1,hb _ _ _ _ _ hA hok h0 fun s' hs'=>?_⟩
   cases e0<;>first|(cases he;done)|exact hk _ hs'.rem
 · rename_i hn
   rw[Ad hn] at hl;split at hok
   · exact hok.elim
   · rename_i H K hd;rw[hd] at hl;simp only at hl;obtain⟨Y,hY⟩:=Wg hd;split at hok
     · exact hok.elim
     · rename_i x0 hx0;rw[hx0] at hl;simp only at hl;split at hok
       · rename_i hh;rw[Ab hh] at hl;simp only[DT.ok,PX.land_den,PX.den] at hok;obtain⟨hlo,_⟩:=hok;simp only[DT.lf] at hl
         have hK:ES K { s with sl:=D1 live 0 s.sl }:=by
          have:=(fK (Du live d) Y).2 _ hA;rw[hY] at this;exact this
         have h0:ES (wrX K H x0) { s with sl:=D1 live 0 s.sl }:=Xz hA H hK hx0;have hto:=hlo.to
         have hle:∀ x,LeS K (wrX K H x):=fun x=>LeS.wrX H x ⟨LeC.refl _,LeB.refl _,LeB.refl _⟩ hh
         have main:∀ {x y:Gr H},LoopTo (Nl body K H) (Nd live body K H) (fun x=>(ia live body K H x).den) x y →
          ((lT body K H y).drop.map (Kh (wrX K H y))).lf=some (e,d') →
          ∃ n,∀ s:PS,ES (wrX K H x) { s with sl:=D1 live 0 s.sl }→P1 pb live k n s:=by
          intro x y h
          induction h with
          | stop hg hc=>
            rename_i x;intro hl;have hg:=((PX.land_den _ _).mp hg).1;obtain⟨e0,d0,h0⟩:=DT.ok_lf hg
            have he:e0.isN=false:=by
             unfold Nl at hc
             cases hcc:(lT body K H x).cont with
             |none=>rw[DT.cont_none hcc] at h0;cases h0
             |some b=>rw[hcc] at hc;rw[← DT.cont_s hcc h0];exact hc
            rw[DT.map_lf,DT.drop_lf h0 he] at hl;simp only[BM,Ah,Ak] at hl;obtain⟨rfl,rfl⟩:=hl;refine⟨1,fun s hs=>hb _ _ _ _ _ hs hg h0 fun s' hs'=>?_⟩
            cases e0<;>first|(cases he;done)|exact hk _ hs'.rem
          | go hg hc h3 ih=>
            rename_i x y';intro hl;obtain⟨n,ih⟩:=ih hl;have hg2:=(PX.land_den _ _).mp hg;obtain⟨e0,d0,h0⟩:=DT.ok_lf hg2.1
            have he:e0= .normal:=by
             unfold Nl at hc
             cases hcc:(lT body K H x).cont with
             |none=>rw[DT.cont_none hcc] at h0;cases h0
             | some b=>
               rw[hcc] at hc;have:=DT.cont_s hcc h0;rw[show b.b=true from hc] at this
               cases e0<;>first|rfl|cases this
            subst he;refine⟨n+1,fun s hs=>hb _ _ _ _ _ hs hg2.1 h0 fun s' hs'=>?_⟩;refine ih s' ?_;have hg3:=hg2.2
            cases hnm:(lT body K H x).norm with
            |none=>have:=DT.norm_none hnm h0;cases this
            |fail=>rw[hnm] at hg3;exact hg3.elim
            | some m=>
              rw[hnm] at hg3;simp only at hg3;split at hg3
              · rename_i hf;simp only[Ai] at hf;obtain⟨hf1,hf2⟩:=hf;have hm:ES m s':=DT.norm_s (hall _) hnm h0 hs';have hm2:=hm.keep live;have hch:ChgS (wrX K H x).clean (Du live m):=(DT.norm_chg (hall _) hnm).trans (Vt live m);have hK':=vX hf1 (hle x) hch hm2;obtain⟨y2,hy2⟩:=Option.isSome_iff_exists.mp hf2
                have hnx:Nd live body K H x=y2:=by unfold Nd;rw[hnm];simp only[hy2]
                rw[hnx];exact Xz hm2 H hK' hy2
              · exact hg3.elim
         obtain⟨n,hn⟩:=main hto hl;exact⟨n,hn s h0⟩
       · exact hok.elim
theorem r9{live:List Nat}{n:Nat}{body:DS→DT}(hall:∀ d,(body d).All (ChgS d.clean))(d:DS):(M9 live n body d).All (ChgS d):=by
 unfold M9;split
 · exact DT.map_all (fun st h=>(Vt live d).trans h.rem) (hall _)
 · split
   · trivial
   · rename_i H K hd;obtain⟨Y,hY⟩:=Wg hd;split
     · trivial
     · split
       · have hK:ChgS d K:=by
          have:=(fK (Du live d) Y).1;rw[hY] at this;exact(Vt live d).trans this
         exact DT.map_all (fun st h=>(hK.trans (eM H K _)).trans h.rem) (DT.drop_all (hall _))
       · trivial
theorem dN(d:DS)(c:Opnd)(t:Bool):ChgS d (setc d c t):=by
 cases c with
 |t g=>exact Vy d g t
 |c v=>exact ChgS.refl d
theorem eL{d:DS}{s:PS}{c:Opnd}{b:Bool}(hs:ES d s)(h:c.pev s.sl= .fl (.bool b)):ES (setc d c b) s:=by
 cases c with
 |t g=>exact dS hs h
 |c v=>exact hs
theorem Hy:∀ (c:DCode) (d:DS),(dev c d).All (ChgS d)
 |.skip,d=>ChgS.refl d
 |.region ops,d=>VM ops d (ChgS.refl d)
 | .regionU ops,d=>by
   simp only[dev]
   split
   · exact VM ops d (ChgS.refl d)
   · trivial
 | .seq l a b,d=>by
   refine DT.then_all (Hy a d.clean) (fun st h=>?_) (fun st h=>h.rem)
   have h1:ChgS d (Kh d (Tq l st)):=(h.trans (qY l st)).rem
   exact DT.All.imp (fun _ h2=>h1.trans h2) (Hy b _)
 | .cond c a b,d=>by
   simp only[dev]
   cases hc:c.dev d.sl with
   | bool t=>
     cases t with
     |lit t=>cases t<;>first|exact Hy a d|exact Hy b d
     |dyn t=>exact⟨DT.All.imp (fun _ h=>(dN d c true).trans h) (Hy a _),DT.All.imp (fun _ h=>(dN d c false).trans h) (Hy b _)⟩
   |_=>trivial
 |.block i a,d=>DT.unexit_all i (Hy a d)
 |.loop live n a,d=>r9 (fun d=>Hy a d.clean) d
 |.exit i,d=>ChgS.refl d
 |.ret,d=>ChgS.refl d
theorem Hf:∀ (c:DCode),AllD c.obs→∀ {d d':DS} {s:PS} {e:AExit} {k:Fl},ES d s→(dev c d).ok.den→(dev c d).lf=some (e,d')→(∀ s',ES d' s'→k e s')→FZ c.er k s
 | .skip,_,d,d',s,e,k,hs,hok,hl,hk=>by
   simp only[dev,DT.lf,Ah,Ak] at hl
   obtain⟨rfl,rfl⟩:=hl
   exact hk s hs
 | .region ops,ho,d,d',s,e,k,hs,hok,hl,hk=>by
   have he:=fS ops hl
   subst he
   exact W9 ops ho rfl hk d s hs hok hl
 | .regionU ops,ho,d,d',s,e,k,hs,hok,hl,hk=>by
   simp only[dev] at hok hl
   split at hok
   · rename_i hp
     rw[Ab hp] at hl
     have he:=fS ops hl
     subst he
     exact⟨hp,W9 ops ho rfl hk d s hs hok hl⟩
   · exact hok.elim
 | .seq l a b,ho,d,d',s,e,k,hs,hok,hl,hk=>by
   obtain⟨h1,h2⟩:=ho.app
   obtain⟨hoa,hc⟩:=DT.then_s (Hy a d.clean) hok hl
   simp only[DCode.er,FZ]
   rcases hc with⟨st0,m,hla,hm,hch,hob,hlb⟩|⟨he,st0,hla,rfl⟩
   · refine Hf a h1 hs.clean hoa hla fun s' hs'=>?_
     exact Hf b h2 (((hm s' hs').trim l).rem) hob hlb hk
   · refine Hf a h1 hs.clean hoa hla fun s' hs'=>?_
     cases e<;>first|(cases he;done)|exact hk s' hs'.rem
 | .cond c a b,ho,d,d',s,e,k,hs,hok,hl,hk=>by
   obtain⟨h1,h2⟩:=ho.app
   have hv:=c.dev_ev hs
   simp only[dev] at hok hl
   simp only[DCode.er,FZ]
   cases hc:c.dev d.sl with
   | bool t=>
     rw[hc] at hok hl hv
     have hp:=hv.of (by simp)
     simp only[DV.enc] at hp
     rw[hp]
     simp only
     cases t with
     | lit t=>
       cases t with
       |true=>exact Hf a h1 hs hok hl hk
       |false=>exact Hf b h2 hs hok hl hk
     | dyn t=>
       have hok:=(PX.if_den _ _ _).mp hok
       cases t with
       |true=>exact Hf a h1 (eL hs hp) (hok.1 rfl) hl hk
       |false=>exact Hf b h2 (eL hs hp) (hok.2 rfl) hl hk
   |_=>rw[hc] at hok;exact hok.elim
 | .block i a,ho,d,d',s,e,k,hs,hok,hl,hk=>by
   simp only[dev,DT.unexit_ok,DT.unexit_lf] at hok hl
   obtain⟨e0,d0,h0⟩:=DT.ok_lf hok
   rw[h0] at hl
   simp only[BM,Ah,Ak] at hl
   obtain⟨rfl,rfl⟩:=hl
   refine Hf a ho hs hok h0 fun s' hs'=>?_
   have:=hk s' hs'
   cases e0 with
   |normal=>exact this
   |ret=>exact this
   | exit j=>
     simp only[WD]
     simp only[AExit.un] at this
     split
     · rename_i hj;rw[Ab hj] at this;exact this
     · rename_i hj;rw[Ad hj] at this;exact this
 | .loop live n a,ho,d,d',s,e,k,hs,hok,hl,hk=>by
   simp only[dev] at hok hl
   exact vL (fun d=>Hy a d.clean) (fun d s e d' k hs hok hl hk=>Hf a ho hs.clean hok hl hk) hs hok hl hk
 | .exit i,_,d,d',s,e,k,hs,hok,hl,hk=>by
   simp only[dev,DT.lf,Ah,Ak] at hl
   obtain⟨rfl,rfl⟩:=hl
   exact hk s hs
 | .ret,_,d,d',s,e,k,hs,hok,hl,hk=>by
   simp only[dev,DT.lf,Ah,Ak] at hl
   obtain⟨rfl,rfl⟩:=hl
   exact hk s hs
mutual
def DV.flt:DV→Bool
 |.bool _|.int _ _|.str _|.ifc _=>true
 |.agg cs=>DV.fltL cs
 |.tup vs=>DV.fltL vs
 |_=>false
def DV.fltL:List DV→Bool
 |[]=>true
 |v::r=>v.flt&&DV.fltL r
end
mutual
theorem Wr:∀ (v:DV),v.flt=true→v.enc.flt=true
 |.bool _,_|.int _ _,_|.str _,_|.ifc _,_=>rfl
 |.agg cs,h=>V8 cs h
 |.tup cs,h=>V8 cs h
theorem V8:∀ (l:List DV),DV.fltL l=true→PV.fltL (DV.encL l)=true
 |[],_=>rfl
 | v::r,h=>by
   simp only[DV.fltL,Ai] at h
   simp only[DV.encL,PV.fltL,Wr v h.1,V8 r h.2,CG]
end
theorem V5:∀ (l:List DV),HV l=true→DV.okL l=true
 |[],_=>rfl
 | v::r,h=>by
   simp only[HV,Ai] at h
   have:v.ok=true:=by cases v<;>first|rfl|(have:=h.1;cases this)
   simp only[DV.okL,this,V5 r h.2,CG]
theorem EBx.segm2{a:List DC}{b:List PV}{o n:Nat}(h:EBx a b)(hl:o+n≤a.length)(hk:DV.okL (BF (BJ a) o n)=true):Go.Ag.segm b o n=DV.encL (BF (BJ a) o n)∧o+n≤b.length:=by
 rcases h with rfl|h
 · simp only[AJ,Nat.le_zero_eq,Nat.add_eq_zero_iff] at hl;obtain⟨rfl,rfl⟩:=hl;refine⟨?_,Ge _⟩;cases b<;>rfl
 · exact⟨h.segm o n hk,by rw[← h.len];exact hl⟩
theorem dt{st st':DS}{s:PS}{r:ARes}{v:DV}(hs:ES st s)(h:Pm st r=some (v,st'))(hv:v.ok=true):∃ s',HO s r=some (v.enc,s')∧ES st' s':=by
 cases r with
 | tmp t=>
   simp only[Pm] at h;split at h
   · rename_i hc;simp only[Ai] at hc;simp only[Ah] at h
     have hk:(A7 (.t t) st).1.ok=true:=by
      have:(A7 (.t t) st).1=v:=by simp only[A7,h]
      rw[this];exact hv
     obtain⟨m1,m2⟩:=Ee (.t t) hs hk
     have hne:Bb st.sl t≠.any:=by intro e;rw[e] at hc;cases hc.2
     have hp:=(hs.sl.get t).of hne;simp only[A7,h,mvOut] at m1 m2;refine⟨(Ev (Aa s.sl t) t s).2,?_,m2⟩;simp only[HO];rw[Ab (by rw[hp];exact bU _ hc.1),← m1]
   · cases h
 | cell t n=>
   simp only[Pm] at h;have hp:=hs.sl.get t
   cases hv:Bb st.sl t with
   | box i o=>
     rw[hv] at h hp;have hp:=hp.of (by simp);simp only at h;split at h
     · rename_i hc;simp only[Ai] at hc;simp only[BC] at h;obtain⟨⟨g,r⟩,h1,h2⟩:=h;simp only at h2;subst h2;obtain⟨e1,e2⟩:=(hs.bx.get i).segm2 (CF hc.1) (V5 _ hc.2)
       have hg:g= .tt:=by
        unfold J1 at h1;simp only[AE] at h1;split at h1
        · simp only[BC,Ak] at h1;obtain⟨_,_,rfl,_⟩:=h1;rfl
        · cases h1
       subst hg;obtain⟨s',e3,e4⟩:=UH (p:=.box i o) hs (.inr rfl) h1;refine⟨s',?_,e4⟩;simp only[HO,hp,DV.enc];rw[Ab ⟨e2,by rw[e1];exact Sm _ hc.2⟩];exact e3
     · cases h
   | ptr i o=>
     rw[hv] at h hp;have hp:=hp.of (by simp);simp only at h;split at h
     · rename_i hc;simp only[Ai] at hc;simp only[BC] at h;obtain⟨⟨g,r⟩,h1,h2⟩:=h;simp only at h2;subst h2;obtain⟨e1,e2⟩:=(hs.hp.get i).segm2 (CF hc.1) (V5 _ hc.2)
       have hg:g= .tt∧i<st.hp.length:=by
        unfold I5 at h1;simp only[AE] at h1;split at h1
        · rename_i hb;simp only[Ai] at hb;simp only[BC,Ak] at h1;obtain⟨_,_,rfl,_⟩:=h1;exact⟨rfl,CF hb.1.1⟩
        · cases h1
       obtain⟨rfl,hi⟩:=hg;obtain⟨s',e3,e4⟩:=UF (p:=.ptr i o) hs (.inr rfl) h1 trivial;refine⟨s',?_,e4⟩;simp only[HO,hp,DV.enc];rw[Ab ⟨by rw[← hs.hp.len];exact hi,e2,by rw[e1];exact Sm _ hc.2⟩];exact e3
     · cases h
   |_=>rw[hv] at h;cases h
theorem bN:∀ {res:List ARes} {st st':DS} {s:PS} {vs:List DV},ES st s→MR st res=some (vs,st')→DV.okL vs=true→∃ s',HB s res=some (DV.encL vs,s')∧ES st' s'
 | [],st,st',s,vs,hs,h,_=>by
   simp only[MR,Ah,Ak] at h
   obtain⟨rfl,rfl⟩:=h
   exact⟨s,rfl,hs⟩
 | r :: rs,st,st',s,vs,hs,h,hk=>by
   simp only[MR] at h
   split at h
   · rename_i v st1 h1
     split at h
     · rename_i vs1 st2 h2
       simp only[Ah,Ak] at h
       obtain⟨rfl,rfl⟩:=h
       simp only[DV.okL,Ai] at hk
       obtain⟨s1,e1,e2⟩:=dt hs h1 hk.1
       obtain⟨s2,e3,e4⟩:=bN e2 h2 hk.2
       exact⟨s2,by simp only[HB,e1,e3,DV.encL],e4⟩
     · cases h
   · cases h
theorem ft:∀ {res:List ARes} {st:DS} {s:PS} {v:DV},ES st s→FM st res=some v→v.ok=true→∃ s',Lr s res=some (v.enc,s'):=by
 have gen:∀ {res:List ARes} {st:DS} {s:PS} {v:DV},ES st s→v.ok=true→(MR st res).map (fun x=>DV.tup x.1)=some v→∃ s',(HB s res).map (fun(vs,st)=>(PV.tup vs,st))=some (v.enc,s'):=fun hs hv h=>by
  simp only[BC] at h;obtain⟨⟨vs,st'⟩,h1,rfl⟩:=h;obtain⟨s',e1,_⟩:=bN hs h1 hv;exact⟨s',by rw[e1];rfl⟩
 intro res st s v hs h hv
 cases res with
 |nil=>exact gen (res:=[]) hs hv h
 | cons r rs=>
   cases rs with
   | nil=>
     simp only[FM,BC] at h;obtain⟨⟨v',st'⟩,h1,rfl⟩:=h;obtain⟨s',e1,_⟩:=dt hs h1 hv;exact⟨s',e1⟩
   |cons r2 rs=>exact gen (res:=r::r2::rs) hs hv h
theorem Nc {res:List ARes}:∀ {t:DT} {g:PX} {v:DV},t.val res=(g,some v)→v≠.any→g.den →
 t.ok.den∧∃ e st v0,t.lf=some (e,st)∧(∀ i,e≠.exit i)∧FM st res=some v0∧v0.ok=true∧v.enc=v0.enc
 | .leaf e st,g,v,h,hv,hg=>by
   have gen:(match FM st res with|some v=>if (v.ok&&!v.hasPtr)=true then (PX.tt,some v) else (PX.ff,none)|none=>(PX.ff,none))=(g,some v)→FM st res=some v∧v.ok=true:=fun h=>by
    split at h
    · split at h
      · rename_i h1 h2;simp only[Ak,Ah] at h;obtain⟨_,rfl⟩:=h;simp only[Ai] at h2;exact⟨h1,h2.1⟩
      · simp at h
    · simp at h
   cases e with
   |exit i=>simp[DT.val] at h
   |normal=>obtain⟨h1,h2⟩:=gen h;exact⟨trivial,.normal,st,v,rfl,by simp,h1,h2,rfl⟩
   |ret=>obtain⟨h1,h2⟩:=gen h;exact⟨trivial,.ret,st,v,rfl,by simp,h1,h2,rfl⟩
 | .node c a b,g,v,h,hv,hg=>by
   simp only[DT.val] at h
   have hno:∀ {t:DT} {g:PX},t.val res=(g,none)→¬ g.den:=by
    intro t
    induction t with
    | leaf e st=>
      intro g h;cases e<;>simp only[DT.val] at h<;>(repeat' split at h)<;>simp only[Ak,reduceCtorEq,and_false,MV] at h<;>subst h<;>exact id
    | node c x y ih1 ih2=>
      intro g h hg;simp only[DT.val] at h
      cases h1:x.val res with
      | mk g1 v1=>
        cases h2:y.val res with
        | mk g2 v2=>
          rw[h1,h2] at h
          cases v1 with
          | none=>
            simp only[Ak] at h;obtain⟨rfl,rfl⟩:=h;have:=(PX.if_den _ _ _).mp hg
            cases c with
            |true=>exact ih1 h1 (this.1 rfl)
            |false=>exact ih2 h2 (this.2 rfl)
          |some v1=>cases v2<;>simp at h
    | chk g0 t ih=>
      intro g h hg;simp only[DT.val] at h
      cases h1:t.val res with
      | mk g1 v1=>
        rw[h1] at h;simp only[Ak] at h;obtain⟨rfl,rfl⟩:=h;exact ih h1 ((PX.land_den _ _).mp hg).2
    | bad=>
      intro g h;simp only[DT.val,Ak,MV] at h;subst h;exact id
   cases h1:a.val res with
   | mk g1 v1=>
     cases h2:b.val res with
     | mk g2 v2=>
       rw[h1,h2] at h
       have fin:∀ (v1 v2:DV),g=PX.if' c g1 g2→a.val res=(g1,some v1)→b.val res=(g2,some v2)→v=CM c v1 v2→(DT.node c a b).ok.den∧∃ e st v0,(DT.node c a b).lf=some (e,st)∧(∀ i,e≠.exit i)∧FM st res=some v0∧v0.ok=true∧v.enc=v0.enc:=by
        intro v1 v2 hgg h1 h2 hvv;subst hgg;have hg:=(PX.if_den _ _ _).mp hg;have he:=(SV c v1 v2).resolve_left (by rw[← hvv];exact hv);rw[← hvv] at he
        have n1:v1≠.any:=by rintro rfl;apply hv;rw[hvv];cases v2<;>rfl
        have n2:v2≠.any:=by rintro rfl;apply hv;rw[hvv];cases v1<;>rfl
        show (PX.if' c a.ok b.ok).den∧∃ e st v0,(DT.node c a b).lf=some (e,st)∧(∀ i,e≠.exit i)∧FM st res=some v0∧v0.ok=true∧v.enc=v0.enc;rw[PX.if_den]
        cases c with
        | true=>
          obtain⟨k1,e,st,v0,k2,k3,k4,k5,k6⟩:=Nc h1 n1 (hg.1 rfl);exact⟨⟨fun _=>k1,fun h=>by cases h⟩,e,st,v0,k2,k3,k4,k5,by rw[he];exact k6⟩
        | false=>
          obtain⟨k1,e,st,v0,k2,k3,k4,k5,k6⟩:=Nc h2 n2 (hg.2 rfl);exact⟨⟨fun h=>(by cases h),fun _=>k1⟩,e,st,v0,k2,k3,k4,k5,by rw[he];exact k6⟩
       cases v1 with
       | none=>
         simp only[Ak] at h;obtain⟨rfl,rfl⟩:=h;have hg:=(PX.if_den _ _ _).mp hg;show (PX.if' c a.ok b.ok).den∧_;rw[PX.if_den]
         cases c with
         |true=>exact absurd (hg.1 rfl) (hno h1)
         | false=>
           obtain⟨k1,e,st,v0,k2,k3,k4,k5,k6⟩:=Nc h2 hv (hg.2 rfl);exact⟨⟨fun h=>(by cases h),fun _=>k1⟩,e,st,v0,k2,k3,k4,k5,k6⟩
       | some v1=>
         cases v2 with
         | none=>
           simp only[Ak,Ah] at h;obtain⟨rfl,rfl⟩:=h;have hg:=(PX.if_den _ _ _).mp hg;show (PX.if' c a.ok b.ok).den∧_;rw[PX.if_den]
           cases c with
           |false=>exact absurd (hg.2 rfl) (hno h2)
           | true=>
             obtain⟨k1,e,st,v0,k2,k3,k4,k5,k6⟩:=Nc h1 hv (hg.1 rfl);exact⟨⟨fun _=>k1,fun h=>by cases h⟩,e,st,v0,k2,k3,k4,k5,k6⟩
         | some v2=>
           simp only[Ak,Ah] at h;exact fin v1 v2 h.1.symm h1 h2 h.2.symm
 | .chk g0 t,g,v,h,hv,hg=>by
   simp only[DT.val] at h
   cases h1:t.val res with
   | mk g1 v1=>
     rw[h1] at h;simp only[Ak] at h;obtain⟨rfl,rfl⟩:=h;have hg:=(PX.land_den _ _).mp hg;obtain⟨k1,k2⟩:=Nc h1 hv hg.2;exact⟨(PX.land_den _ _).mpr ⟨hg.1,k1⟩,k2⟩
 |.bad,g,v,h,hv,hg=>by simp[DT.val] at h
theorem EL.append:∀ {a:List DC} {b:List PV} {c:List DC} {d:List PV},EL a b→EL c d→EL (a++c) (b++d)
 |[],[],_,_,_,h=>h
 |_::_,_::_,_,_,h,h'=>⟨h.1,EL.append h.2 h'⟩
theorem VE:∀ (n:Nat),EL (Lf n) (HU n)
 |0=>trivial
 |n+1=>⟨.inl rfl,VE n⟩
theorem VW:∀ (n:Nat),EB (Lc n) (J6 n)
 |0=>trivial
 |n+1=>⟨.inl rfl,VW n⟩
theorem qd {f:DFun} (ho:AllD f.body.obs) {args:List DV} {g:PX} {v:DV} (h:P6 f args=(g,some v)) (hg:g.den) (hv:v≠.any) (hl:args.length=f.nparams) (hp:f.pure=true→v.flt=true)
 {Q:PV→List (List PV)→Prop} (hQ:∀ H,Q v.enc H):MP f.er (DV.encL args) [] Q:=by
 unfold P6 at h
 obtain⟨hok,e,st,v0,h1,h2,h3,h4,h5⟩:=Nc h hv hg
 refine⟨by rw[EN];exact hl,fun _=>rfl,?_⟩
 refine Hf f.body ho (d:=⟨news args++Lf (f.nslots-f.nparams),Lc f.nbox,[]⟩) ⟨(EL.news args).append (VE _),VW _,trivial⟩ hok h1 fun s' hs'=>?_
 obtain⟨s2,e2⟩:=ft hs' h3 h4
 rw[← h5] at e2
 have fin:(match Lr s' f.res with|some (v,st)=>if f.pure=true then v.flt=true∧Q v [] else Q v st.hp|none=>False):=by
  rw[e2];simp only;split
  · rename_i hpu;exact⟨Wr v (hp hpu),hQ _⟩
  · exact hQ _
 cases e with
 |normal=>exact fin
 |ret=>exact fin
 |exit i=>exact absurd rfl (h2 i)
def TuX:List HT→Type
 |[]=>Unit
 |[a]=>a.D
 |a::r=>a.D×TuX r
def Hl:(l:List HT)→List DV→Option (TuX l)
 |[],[]=>some ()
 |[a],[v]=>a.of v
 | a::b::r,v::vs=>(match a.of v,Hl (b::r) vs with
   |some x,some y=>some (x,y)
   |_,_=>none)
 |_,_=>none
def En:(l:List HT)→TuX l→List DV
 |[],_=>[]
 |[a],x=>[a.dv x]
 |a::b::r,x=>a.dv x.1::En (b::r) x.2
inductive QT where
 |one (h:HT)|tup (l:List HT)
def QT.D:QT→Type
 |.one h=>h.D
 |.tup l=>TuX l
def QT.of:(q:QT)→DV→Option q.D
 |.one h,v=>h.of v
 |.tup l,.tup vs=>Hl l vs
 |.tup _,_=>none
def QT.dv:(q:QT)→q.D→DV
 |.one h,x=>h.dv x
 |.tup l,x=>.tup (En l x)
def QT.ofO(q:QT):Option DV→Option q.D
 |some v=>q.of v
 |none=>none
def gI:(l:List (Ql×CT))→AgX l
 |[]=>()
 |[a]=>a.2.dflt
 |a::b::r=>(a.2.dflt,gI (b::r))
def HT.dflt:(h:HT)→h.D
 |.one _ t=>t.dflt
 |.agg l=>gI l
def gg:(l:List HT)→TuX l
 |[]=>()
 |[a]=>a.dflt
 |a::b::r=>(a.dflt,gg (b::r))
def QT.dflt:(q:QT)→q.D
 |.one h=>h.dflt
 |.tup l=>gg l
def HT.flt:HT→Bool
 |.one _ t=>t.flat
 |.agg l=>l.all fun a=>a.2.flat
def QT.flt:QT→Bool
 |.one h=>h.flt
 |.tup l=>l.all HT.flt
theorem TB:∀ {l:List HT} {vs:List DV} {x:TuX l},Hl l vs=some x→DV.encL (En l x)=DV.encL vs
 |[],[],_,_=>rfl
 | [a],[v],x,h=>by
   show [(a.dv x).enc]=[v.enc]
   rw[(PY (t:=a) h).1]
 | a :: b::r,v::vs,x,h=>by
   have h':(match a.of v,Hl (b::r) vs with|some x,some y=>some (x,y)|_,_=>none)=some x:=h
   clear h
   cases h1:a.of v with
   |none=>rw[h1] at h';cases h'
   | some p=>
     cases h2:Hl (b::r) vs with
     |none=>rw[h1,h2] at h';cases h'
     | some q=>
       rw[h1,h2] at h'
       have h':=CD h'
       subst h'
       show (a.dv p).enc::DV.encL (En (b::r) q)=v.enc::DV.encL vs
       rw[(PY h1).1,TB h2]
theorem gX{q:QT}{v:DV}{x:q.D}(h:q.of v=some x):(q.dv x).enc=v.enc∧v≠.any:=by
 cases q with
 |one t=>exact PY (t:=t) h
 | tup l=>
   cases v<;>try (cases h;done)
   rename_i cs;refine⟨?_,by simp⟩;show PV.tup _=PV.tup _;rw[TB (l:=l) h]
theorem RY:∀ (l:List HT) (x:TuX l),(En l x).length=l.length
 |[],_=>rfl
 |[_],_=>rfl
 | a::b::r,x=>by
   show (En (b::r) x.2).length+1=(b::r).length+1
   rw[RY (b::r) x.2]
theorem WL{q:Ql}{t:CT}{v:DV}{x:t.D}(hf:t.flat=true)(h:t.ofQ q v=some x):v.flt=true:=by
 cases t<;>first|(cases hf;done)|skip
 all_goals (cases v<;>first|rfl|(cases h;done))
theorem fA:∀ {l:List (Ql×CT)} {vs:List DV} {x:AgX l},l.all (fun a=>a.2.flat)=true→Ki l vs=some x→DV.fltL vs=true
 |[],[],_,_,_=>rfl
 | [a],[v],x,hf,h=>by
   simp only[ET,Ta,Jd] at hf
   simp only[DV.fltL,WL (q:=a.1) hf h,CG]
 | a :: b::r,v::vs,x,hf,h=>by
   have h':(match a.2.ofQ a.1 v,Ki (b::r) vs with|some x,some y=>some (x,y)|_,_=>none)=some x:=h
   clear h
   rw[ET,Ai] at hf
   cases h1:a.2.ofQ a.1 v with
   |none=>rw[h1] at h';cases h'
   | some p=>
     cases h2:Ki (b::r) vs with
     |none=>rw[h1,h2] at h';cases h'
     |some q=>simp only[DV.fltL,WL hf.1 h1,fA hf.2 h2,CG]
theorem WY{t:HT}{v:DV}{x:t.D}(hf:t.flt=true)(h:t.of v=some x):v.flt=true:=by
 cases t with
 |one q t=>exact WL (q:=q) (t:=t) hf h
 | agg l=>
   cases v<;>try (cases h;done)
   exact fA (l:=l) hf h
theorem fL:∀ {l:List HT} {vs:List DV} {x:TuX l},l.all HT.flt=true→Hl l vs=some x→DV.fltL vs=true
 |[],[],_,_,_=>rfl
 | [a],[v],x,hf,h=>by
   simp only[ET,Ta,Jd] at hf
   simp only[DV.fltL,WY (t:=a) hf h,CG]
 | a :: b::r,v::vs,x,hf,h=>by
   have h':(match a.of v,Hl (b::r) vs with|some x,some y=>some (x,y)|_,_=>none)=some x:=h
   clear h
   rw[ET,Ai] at hf
   cases h1:a.of v with
   |none=>rw[h1] at h';cases h'
   | some p=>
     cases h2:Hl (b::r) vs with
     |none=>rw[h1,h2] at h';cases h'
     |some q=>simp only[DV.fltL,WY hf.1 h1,fL hf.2 h2,CG]
theorem gC{q:QT}{v:DV}{x:q.D}(hf:q.flt=true)(h:q.of v=some x):v.flt=true:=by
 cases q with
 |one t=>exact WY (t:=t) hf h
 | tup l=>
   cases v<;>try (cases h;done)
   exact fL (l:=l) hf h
def HH(hs:List HT)(q:QT)(ok:TuX hs→Prop)(v:TuX hs→q.D):Fm:=fun args=>match Hl hs args with
 |some x=>some (.p (ok x),q.dv (v x))
 |none=>none
def DT.valQ(q:QT)(res:List ARes):DT→PX×Option q.D
 |.leaf (.exit _) _=>(.ff,none)
 | .leaf _ st=>(match FM st res with
   | some v=>if v.ok&&!v.hasPtr then (match q.of v with
     |some y=>(.tt,some y)
     |none=>(.ff,none)) else (.ff,none)
   |none=>(.ff,none))
 | .node c a b=>(match a.valQ q res,b.valQ q res with
   |(g,none),(g',y)=>(PX.if' c g g',y)
   |(g,x),(g',none)=>(PX.if' c g g',x)
   |(g,some x),(g',some y)=>(PX.if' c g g',some (bSel c x y)))
 | .chk g t=>(match t.valQ q res with
   |(g',v)=>(g.land g',v))
 |.bad=>(.ff,none)
theorem OJ{q:QT}{res:List ARes}:∀ {t:DT} {g:PX},t.valQ q res=(g,none)→¬ g.den
 | .leaf e st,g,h=>by
   cases e<;>simp only[DT.valQ] at h<;>(repeat' split at h)<;>simp only[Ak,reduceCtorEq,and_false,MV] at h<;>subst h<;>exact id
 | .node c x y,g,h=>by
   intro hg
   simp only[DT.valQ] at h
   cases h1:x.valQ q res with
   | mk g1 v1=>
     cases h2:y.valQ q res with
     | mk g2 v2=>
       rw[h1,h2] at h
       cases v1 with
       | none=>
         simp only[Ak] at h
         obtain⟨rfl,rfl⟩:=h
         have:=(PX.if_den _ _ _).mp hg
         cases c with
         |true=>exact OJ h1 (this.1 rfl)
         |false=>exact OJ h2 (this.2 rfl)
       |some v1=>cases v2<;>simp at h
 | .chk g0 t,g,h=>by
   intro hg
   simp only[DT.valQ] at h
   cases h1:t.valQ q res with
   | mk g1 v1=>
     rw[h1] at h
     simp only[Ak] at h
     obtain⟨rfl,rfl⟩:=h
     exact OJ h1 ((PX.land_den _ _).mp hg).2
 | .bad,g,h=>by
   simp only[DT.valQ,Ak,MV] at h
   subst h;exact id
theorem S7{q:QT}{res:List ARes}:∀ {t:DT} {g:PX} {y:q.D},t.valQ q res=(g,some y)→g.den →
 t.ok.den∧∃ e st v0,t.lf=some (e,st)∧(∀ i,e≠.exit i)∧FM st res=some v0∧v0.ok=true∧q.of v0=some y
 | .leaf e st,g,y,h,hg=>by
   have gen:(match FM st res with|some v=>if (v.ok&&!v.hasPtr)=true then (match q.of v with|some y=>(PX.tt,some y)|none=>(PX.ff,none)) else (PX.ff,none)|none=>(PX.ff,none))=(g,some y)→∃ v,FM st res=some v∧v.ok=true∧q.of v=some y:=fun h=>by
    split at h
    · rename_i v hv;split at h
      · rename_i hc;simp only[Ai] at hc;split at h
        · rename_i y' hy;simp only[Ak,Ah] at h;obtain⟨_,rfl⟩:=h;exact⟨v,hv,hc.1,hy⟩
        · simp at h
      · simp at h
    · simp at h
   cases e with
   |exit i=>simp[DT.valQ] at h
   |normal=>obtain⟨v,h1,h2,h3⟩:=gen h;exact⟨trivial,.normal,st,v,rfl,by simp,h1,h2,h3⟩
   |ret=>obtain⟨v,h1,h2,h3⟩:=gen h;exact⟨trivial,.ret,st,v,rfl,by simp,h1,h2,h3⟩
 | .node c a b,g,y,h,hg=>by
   simp only[DT.valQ] at h;show (PX.if' c a.ok b.ok).den∧∃ e st v0,(DT.node c a b).lf=some (e,st)∧(∀ i,e≠.exit i)∧FM st res=some v0∧v0.ok=true∧q.of v0=some y;rw[PX.if_den]
   cases h1:a.valQ q res with
   | mk g1 v1=>
     cases h2:b.valQ q res with
     | mk g2 v2=>
       rw[h1,h2] at h
       have hgg:g=PX.if' c g1 g2:=by
        cases v1<;>cases v2<;>simp only[Ak] at h<;>exact h.1.symm
       subst hgg;have hg:=(PX.if_den _ _ _).mp hg
       cases c with
       | true=>
         have:v1=some y:=by
          cases v1 with
          |none=>exact absurd (hg.1 rfl) (OJ h1)
          |some v1=>cases v2<;>simp only[Ak,Bq] at h<;>exact h.2
         subst this;obtain⟨k1,k2⟩:=S7 h1 (hg.1 rfl);exact⟨⟨fun _=>k1,fun h=>by cases h⟩,k2⟩
       | false=>
         have:v2=some y:=by
          cases v2 with
          |none=>exact absurd (hg.2 rfl) (OJ h2)
          |some v2=>cases v1<;>simp only[Ak,Bh] at h<;>exact h.2
         subst this;obtain⟨k1,k2⟩:=S7 h2 (hg.2 rfl);exact⟨⟨fun h=>(by cases h),fun _=>k1⟩,k2⟩
 | .chk g0 t,g,y,h,hg=>by
   simp only[DT.valQ] at h
   cases h1:t.valQ q res with
   | mk g1 v1=>
     rw[h1] at h;simp only[Ak] at h;obtain⟨rfl,rfl⟩:=h;have hg:=(PX.land_den _ _).mp hg;obtain⟨k1,k2⟩:=S7 h1 hg.2;exact⟨(PX.land_den _ _).mpr ⟨hg.1,k1⟩,k2⟩
 |.bad,g,y,h,hg=>by simp[DT.valQ] at h
def QT.isB:QT→Bool
 |.one (.one _ .bool)=>true
 |_=>false
def Qk(f:DFun)(hs:List HT)(q:QT)(x:TuX hs):PX×Option q.D:=
 if q.isB then ((P6 f (En hs x)).1,q.ofO (P6 f (En hs x)).2)
 else (dev f.body ⟨news (En hs x)++Lf (f.nslots-f.nparams),Lc f.nbox,[]⟩).valQ q f.res
def LJ(f:DFun)(hs:List HT)(q:QT)(x:TuX hs):q.D:=(Qk f hs q x).2.getD q.dflt
def LB(f:DFun)(hs:List HT)(q:QT)(x:TuX hs):Prop:=(Qk f hs q x).1.den
def Nj(f:DFun)(hs:List HT)(q:QT)(x:TuX hs):Bool:=(Qk f hs q x).2.isSome
def Ns(f:DFun)(hs:List HT)(q:QT):Bool:=hs.length == f.nparams&&(!f.pure||q.flt)
theorem dM {f:DFun} {hs:List HT} {q:QT} (ho:AllD f.body.obs) (hst:Ns f hs q=true) (x:TuX hs) (hc:Nj f hs q x=true) (hok:LB f hs q x)
 {Q:PV→List (List PV)→Prop} (hQ:∀ H,Q (q.dv (LJ f hs q x)).enc H):MP f.er (DV.encL (En hs x)) [] Q:=by
 simp only[Ns,Ai,AV,Cs,CW] at hst
 unfold Nj at hc
 unfold LJ at hQ
 unfold LB at hok
 unfold Qk at hc hQ hok
 by_cases hb:q.isB=true
 · rw[Ab hb] at hc hQ hok
   cases hd:P6 f (En hs x) with
   | mk g o=>
     rw[hd] at hc hQ hok
     cases o with
     |none=>cases hc
     | some w=>
       obtain⟨y,hy⟩:=Option.isSome_iff_exists.mp hc;rw[hy] at hQ;have hy:q.of w=some y:=hy;obtain⟨h1,h2⟩:=gX hy
       refine qd ho hd hok h2 (by rw[RY];exact hst.1) (fun hp=>gC (by simpa [hp] using hst.2) hy) fun H=>?_
       have:=hQ H;rw[Dh,h1] at this;exact this
 · rw[Ad hb] at hc hQ hok
   cases hd:(dev f.body ⟨news (En hs x)++Lf (f.nslots-f.nparams),Lc f.nbox,[]⟩).valQ q f.res with
   | mk g o=>
     rw[hd] at hc hQ hok
     cases o with
     |none=>cases hc
     | some y=>
       simp only[Dh] at hQ;obtain⟨k1,e,st,v0,k2,k3,k4,k5,k6⟩:=S7 hd hok;obtain⟨h1,h2⟩:=gX k6;refine⟨by rw[EN,RY];exact hst.1,fun _=>rfl,?_⟩
       refine Hf f.body ho (d:=⟨news (En hs x)++Lf (f.nslots-f.nparams),Lc f.nbox,[]⟩) ⟨(EL.news _).append (VE _),VW _,trivial⟩ k1 k2 fun s' hs'=>?_
       obtain⟨s2,e2⟩:=ft hs' k4 k5;rw[← h1] at e2
       have fin:(match Lr s' f.res with|some (v,st)=>if f.pure=true then v.flt=true∧Q v [] else Q v st.hp|none=>False):=by
        rw[e2];simp only;split
        · rename_i hpu;exact⟨by rw[h1];exact Wr _ (gC (by simpa [hpu] using hst.2) k6),hQ _⟩
        · exact hQ _
       cases e with
       |normal=>exact fin
       |ret=>exact fin
       |exit i=>exact absurd rfl (k3 i)
theorem q6{f:DFun}{hs:List HT}{q:QT}(ho:AllD f.body.obs)(hst:Ns f hs q=true)(hc:∀ x,Nj f hs q x=true){ok:TuX hs→Prop}{v:TuX hs→q.D}(hok:∀ x,ok x→LB f hs q x)(hv:∀ x,LJ f hs q x=v x) :
 HN (MP f.er) (HH hs q ok v):=by
 intro args g w Q h hg hQ
 unfold HH at h
 cases hx:Hl hs args with
 |none=>rw[hx] at h;cases h
 | some x=>
   rw[hx] at h;simp only[Ah,Ak] at h;obtain⟨rfl,rfl⟩:=h;rw[← TB hx]
   exact dM ho hst x (hc x) (hok x hg) fun H=>by rw[hv];exact hQ H
attribute [irreducible] Qk LJ LB Nj Ns
def Aw:List DV→List DC
 |[]=>[]
 |v::r=>⟨false,v⟩::Aw r
open Go.RowKit Go.WideShapes Go.ChangeShapes
inductive Ty where
 |int (k:IntKind)
 |bool
 |str
 |sl (t:Ty)
 |unit
 |pair (a b:Ty)
def Ty.w:Ty→Nat
 |.int _|.bool|.str|.sl _=>1
 |.unit=>0
 |.pair a b=>a.w+b.w
def P5(P:Program)(f:TypeId→Option Ty):List Field→Nat→Option Ty
 |[],_=>some .unit
 | g::r,off=>
   match f g.type with
   |some a=>if g.offset=off∧a.w=P.cellsOf g.type then (match P5 P f r (off+a.w) with|some b=>some (.pair a b)|none=>none) else none
   |none=>none
def H5(P:Program):Nat→TypeId→Option Ty
 |0,_=>none
 | d+1,t=>
   match P.underlying t with
   |some (.int k)=>some (.int k)
   |some .bool=>some .bool
   |some .string=>some .str
   |some (.slice e)=>(match H5 P d e with|some te=>if te.w=P.cellsOf e∧0<te.w then some (.sl te) else none|none=>none)
   |some (.struct fs)=>(match P5 P (H5 P d) fs.toList 0 with|some ty=>if ty.w=P.cellsOf t then some ty else none|none=>none)
   |_=>none
def Sh(σ:Ac):Ty→List V→Prop
 |.int k,cs=>∃ n,cs=[.int k n]∧(Lit.int k n).wf=true
 |.bool,cs=>∃ b,cs=[.bool b]
 |.str,cs=>∃ s,cs=[.str s]∧s.length≤maxLen
 |.sl t,cs=>cs=[.nils]∨∃ (l n:Nat) (bs:List V),cs=[.slice l 0 n]∧σ[l]?=some ⟨.ro,t.w,bs⟩∧bs.length=n*t.w∧n≤maxLen∧∀ i,i<n→Sh σ t ((bs.drop (i*t.w)).take t.w)
 |.unit,cs=>cs=[]
 |.pair a b,cs=>∃ xs ys,cs=xs++ys∧Sh σ a xs∧Sh σ b ys
theorem Sh.len{σ:Ac}:∀ {ty:Ty} {cs:List V},Sh σ ty cs→cs.length=ty.w
 |.int _,_,⟨_,h,_⟩=>by rw[h];rfl
 |.bool,_,⟨_,h⟩=>by rw[h];rfl
 |.str,_,⟨_,h,_⟩=>by rw[h];rfl
 |.sl _,_,h=>by rcases h with h|⟨_,_,_,h,_⟩<;>rw[h]<;>rfl
 |.unit,_,h=>by rw[h];rfl
 |.pair a b,_,⟨xs,ys,h,h1,h2⟩=>by rw[h,Cz,h1.len,h2.len];rfl
theorem Sh.mono{σ e:Ac}:∀ {ty:Ty} {cs:List V},Sh σ ty cs→Sh (σ++e) ty cs
 |.int _,_,h=>h
 |.bool,_,h=>h
 |.str,_,h=>h
 | .sl _,_,h=>by
   rcases h with h|⟨l,n,bs,h,h1,h2,h3,h4⟩
   · exact .inl h
   · exact .inr ⟨l,n,bs,h,by rw[Bx (B5 h1)];exact h1,h2,h3,fun i hi=>(h4 i hi).mono⟩
 |.unit,_,h=>h
 |.pair _ _,_,⟨xs,ys,h,h1,h2⟩=>⟨xs,ys,h,h1.mono,h2.mono⟩
def DE(σ:Ac):Prop:=∀ (l:Nat) (b:Blk),σ[l]?=some b→b.k= .ro
def P3(ι:An)(σ:Ac)(W:World)(ty:Ty)(cs:List Value):Prop:=
 ∃ ι' e vs,HRel ι' (σ++e) W∧Keeps ι σ ι' (σ++e)∧DE (σ++e)∧Sh (σ++e) ty vs∧vs.length=cs.length∧∀ (i:Nat) v x,vs[i]?=some v→cs[i]?=some x→v.cell=true∧∀ β,Rel ι' (σ++e) β v x
theorem HRel.lay{ι:An}{σ:Ac}{W:World}(h:HRel ι σ W)(hro:DE σ){b off c:Nat}{wd:Nat}{bs:List V}(hb:b<W.heap.size)(hc:∀ (i:Nat) v,bs[i]?=some v→v.cell=true∧∃ x,W.cell? ⟨b,off+i,none⟩=some x∧∀ β,Rel ι σ β v x) :
 HRel (upd ι σ.length ⟨b,off,c⟩) (σ++[⟨.ro,wd,bs⟩]) W∧DE (σ++[⟨.ro,wd,bs⟩]):=by
 have K:=Oy ι σ ⟨b,off,c⟩ ⟨.ro,wd,bs⟩
 have hall:DE (σ++[⟨.ro,wd,bs⟩]):=by
  intro l blk hl;rcases Fa hl with⟨_,hl⟩|⟨_,rfl⟩
  · exact hro l blk hl
  · rfl
 refine⟨⟨fun l blk hl hk i v hv=>?_,fun l blk hl hk=>?_,fun l l' blk blk' hne hl hl' hk hk'=>?_,fun l blk hl hk=>?_⟩,hall⟩
 · rcases Fa hl with⟨hlt,hl⟩|⟨rfl,rfl⟩
   · rw[CN _ _ _ _ (by omega)];obtain⟨a,x,b',c⟩:=h.cells l blk hl hk i v hv;exact⟨a,x,b',fun β=>(c β).cellMono K a⟩
   · rw[B4];obtain⟨a,x,b',c⟩:=hc i v hv;exact⟨a,x,b',fun β=>(c β).cellMono K a⟩
 · have:=hall l blk hl;rw[hk] at this;cases this
 · have:=hall l blk hl;rw[hk] at this;cases this
 · rcases Fa hl with⟨hlt,hl⟩|⟨rfl,rfl⟩
   · rw[CN _ _ _ _ (by omega)];exact h.there l blk hl hk
   · rw[B4];exact hb
theorem mW{w:World}{a:Addr}{v:Value}(h:w.cell? a=some v):a.block<w.heap.size:=by
 unfold World.cell? at h;rcases Bc a.block w.heap.size with h1|h1
 · exact h1
 · rw[Array.getElem?_eq_none h1] at h;cases h
theorem Tg{α:Type}{l:List α}{i:Nat}{v:α}(h:l[i]?=some v):i<l.length:=by
 rcases Bc i l.length with h1|h1
 · exact h1
 · rw[Bm h1] at h;cases h
section
variable {H:Type} {enc:TypeId×Value→H} {P:Program} {W:World}
theorem ZL(d:Nat)(ih:∀ (t:TypeId)(ty:Ty),H5 P d t=some ty→∀ (fuel:Nat)(cs:List Value) x,DataW.trod enc P W 0 (fun _=>true) true fuel t cs=some x→∀ (ι:An)(σ:Ac),HRel ι σ W→DE σ→P3 ι σ W ty cs) :
 ∀ (fs:List Field) (off:Nat) (ty:Ty),P5 P (H5 P d) fs off=some ty→∀ (fuel:Nat) (cs:List Value),(∀ g∈fs,∃ x,DataW.trod enc P W 0 (fun _=>true) true fuel g.type ((cs.drop g.offset).take (P.cellsOf g.type))=some x) →
   off+ty.w=cs.length→∀ (ι:An) (σ:Ac),HRel ι σ W→DE σ→P3 ι σ W ty (cs.drop off)
 | [],off,ty,h,fuel,cs,_,hl,ι,σ,H,hro=>by
   simp only[P5,Ah] at h;subst h;simp only[Ty.w,Ej] at hl
   have:cs.drop off=[]:=by rw[hl];simp
   rw[this];exact⟨ι,[],[],by simpa using H,by simpa using Keeps.refl ι σ,by simpa using hro,rfl,rfl,by simp⟩
 | g :: r, off,ty,h,fuel,cs,hg,hl,ι,σ,H,hro=>by
   simp only[P5] at h;split at h
   · rename_i a ha;split at h
     · rename_i hc;obtain⟨h1,h2⟩:=hc;split at h
       · rename_i b hb;cases h;simp only[Ty.w] at hl;obtain⟨x,hx⟩:=hg g (by simp);rw[h1] at hx;obtain⟨ι1,e1,vs1,H1,K1,R1,S1,L1,C1⟩:=ih g.type a ha fuel _ x hx ι σ H hro;obtain⟨ι2,e2,vs2,H2,K2,R2,S2,L2,C2⟩:=ZL d ih r (off+a.w) b hb fuel cs (fun g' hg'=>hg g' (by simp[hg'])) (by omega) ι1 (σ++e1) H1 R1;refine⟨ι2,e1++e2,vs1++vs2,by rw[← Bw];exact H2,by rw[← Bw];exact K1.trans K2,by rw[← Bw];exact R2,⟨vs1,vs2,rfl,by rw[← Bw];exact S1.mono,by rw[← Bw];exact S2⟩,?_,fun i v y hv hy=>?_⟩
         · rw[Cz,L1,L2];simp;omega
         · have hl1:vs1.length=a.w:=S1.len;by_cases hi:i<vs1.length
           · rw[Bx hi] at hv
             have hy':((cs.drop off).take (P.cellsOf g.type))[i]?=some y:=by
              rw[G9,Ab (by omega)];exact hy
             obtain⟨q1,q2⟩:=C1 i v y hv hy';exact⟨q1,fun β=>by rw[← Bw];exact(q2 β).cellMono K2 q1⟩
           · rw[CX (by omega)] at hv
             have hy':(cs.drop (off+a.w))[i-vs1.length]?=some y:=by
              rw[I3] at hy ⊢
              have:off+a.w+(i-vs1.length)=off+i:=by omega
              rw[this];exact hy
             obtain⟨q1,q2⟩:=C2 _ v y hv hy';exact⟨q1,fun β=>by rw[← Bw];exact q2 β⟩
       · cases h
     · cases h
   · cases h
theorem fh{b o:Nat}(n:Nat):Addr.add ⟨b,o,none⟩ n=⟨b,o+n,none⟩:=by
 unfold Addr.add;split
 · rename_i h;subst h;rfl
 · rfl
theorem Z1 {d:Nat} (ih:∀ (t:TypeId) (ty:Ty),H5 P d t=some ty→∀ (fuel:Nat) (cs:List Value) x,DataW.trod enc P W 0 (fun _=>true) true fuel t cs=some x→∀ (ι:An) (σ:Ac),HRel ι σ W→DE σ→P3 ι σ W ty cs)
 {e:TypeId} {te:Ty} (hte:H5 P d e=some te) (hw:te.w=P.cellsOf e) {fuel b o:Nat} :
 ∀ (n:Nat),(∀ i,i<n→∃ cs x,W.cells? 0 ⟨b,o+i*te.w,none⟩ te.w=some cs∧DataW.trod enc P W 0 (fun _=>true) true fuel e cs=some x)→∀ (ι:An) (σ:Ac),HRel ι σ W→DE σ →
   ∃ (ι':An) (ext:Ac) (bs:List V),HRel ι' (σ++ext) W∧Keeps ι σ ι' (σ++ext)∧DE (σ++ext)∧bs.length=n*te.w∧(∀ i,i<n→Sh (σ++ext) te ((bs.drop (i*te.w)).take te.w)) ∧
     ∀ (j:Nat) v,bs[j]?=some v→v.cell=true∧∃ x,W.cell? ⟨b,o+j,none⟩=some x∧∀ β,Rel ι' (σ++ext) β v x
 |0,_,ι,σ,H0,hro=>⟨ι,[],[],by simpa using H0,by simpa using Keeps.refl ι σ,by simpa using hro,by simp,fun i hi=>absurd hi (Xp i),by simp⟩
 | n + 1,hn,ι,σ,H0,hro=>by
   obtain⟨ι1,e1,bs,H1,K1,R1,L1,S1,C1⟩:=Z1 ih hte hw n (fun i hi=>hn i (Nat.lt_succ_of_lt hi)) ι σ H0 hro;obtain⟨cs,x,hc,hx⟩:=hn n (Xt n);obtain⟨ι2,e2,vs,H2,K2,R2,S2,L2,C2⟩:=ih e te hte fuel cs x hx ι1 (σ++e1) H1 R1;obtain⟨_,hcl,hcg⟩:=World.cells?_some hc;refine⟨ι2,e1++e2,bs++vs,by rw[← Bw];exact H2,by rw[← Bw];exact K1.trans K2,by rw[← Bw];exact R2,?_,fun i hi=>?_,fun j v hv=>?_⟩
   · rw[Cz,L1,L2,hcl,Lg]
   · rw[← Bw];by_cases h:i<n
     · have h1:(i+1)*te.w≤n*te.w:=FK _ h;rw[Lg] at h1
       have:((bs++vs).drop (i*te.w)).take te.w=(bs.drop (i*te.w)).take te.w:=by
        rw[List.drop_append_of_le_length (by omega),List.take_append_of_le_length (by rw[Pq];omega)]
       rw[this];exact(S1 i h).mono
     · have:i=n:=by omega
       subst this
       have:((bs++vs).drop (i*te.w)).take te.w=vs:=by
        rw[← L1,List.drop_left,Ll (by omega)]
       rw[this];exact S2
   · by_cases h:j<bs.length
     · rw[Bx h] at hv;obtain⟨q1,y,q2,q3⟩:=C1 j v hv;exact⟨q1,y,q2,fun β=>by rw[← Bw];exact(q3 β).cellMono K2 q1⟩
     · rw[CX (by omega)] at hv;have hlt:=Tg hv
       have hlt':j-bs.length<te.w:=by rw[← hcl,← L2];exact hlt
       have hg:=hcg (j-bs.length) hlt';rw[fh] at hg
       have e0:o+n*te.w+(j-bs.length)=o+j:=by omega
       rw[e0] at hg;obtain⟨y,hy⟩:∃ y,cs[j-bs.length]?=some y:=⟨_,Ax (by omega)⟩;obtain⟨q1,q2⟩:=C2 _ v y hv hy;exact⟨q1,y,hg.trans hy,fun β=>by rw[← Bw];exact q2 β⟩
theorem UB:∀ (d:Nat) (t:TypeId) (ty:Ty),H5 P d t=some ty→∀ (fuel:Nat) (cs:List Value) x,DataW.trod enc P W 0 (fun _=>true) true fuel t cs=some x→∀ (ι:An) (σ:Ac),HRel ι σ W→DE σ→P3 ι σ W ty cs
 |0,_,_,h=>by simp[H5] at h
 | d + 1, t, ty,h=>by
   intro fuel cs x hx ι σ H0 hro
   have one:∀ (v:V) (y:Value),cs=[y]→v.cell=true→(∀ β,Rel ι σ β v y)→Sh σ ty [v]→P3 ι σ W ty cs:=by
    intro v y hc hv hr hs;refine⟨ι,[],[v],by simpa using H0,by simpa using Keeps.refl ι σ,by simpa using hro,by simpa using hs,by rw[hc];rfl,fun i u z hu hz=>?_⟩;rw[hc] at hz
    cases i with
    |zero=>simp at hu hz;subst hu;subst hz;exact⟨hv,by simpa using hr⟩
    |succ i=>simp at hu
   unfold H5 at h;split at h
   · rename_i k hu;cases h;obtain⟨n,hc,_,hwf⟩:=DataW.trod_int hu hx;exact one (.int k n) _ hc rfl (fun β=>.int k n) ⟨n,rfl,hwf⟩
   · rename_i hu;cases h;obtain⟨b,hc,_⟩:=DataW.trod_bool hu hx;exact one (.bool b) _ hc rfl (fun β=>.bool b) ⟨b,rfl⟩
   · rename_i hu;cases h;obtain⟨s,hc,_,hwf⟩:=DataW.trod_string hu hx;exact one (.str s.data.toList) _ hc rfl (fun β=>by have:=Rel.str (ι:=ι) (σ:=σ) (β:=β) s.data.toList;simpa using this) ⟨s.data.toList,rfl,by simpa using hwf⟩
   · rename_i e hu;split at h
     · rename_i te hte;split at h
       · rename_i hw;obtain⟨hw,hpos⟩:=hw;cases h;rcases DataW.trod_slice hu hx with⟨hc,_⟩|⟨a,len,cap,elems,rest,n,_,hc,_,_,hle,hcap,hel,hE,hR,_⟩
         · exact one .nils _ hc rfl (fun β=>.nils none) (.inl rfl)
         · obtain⟨hrl,hR⟩:=hR rfl
           have hcell:∀ i,i<cap→∃ cs' y,W.cells? 0 (a.add (i*P.cellsOf e)) (P.cellsOf e)=some cs'∧DataW.trod enc P W 0 (fun _=>true) true n e cs'=some y:=by
            intro i hi;by_cases h:i<len
            · have h1:=hE i h;obtain⟨y,hy⟩:∃ y,elems[i]?=some y:=⟨_,Ax (by omega)⟩;rw[hy,BD] at h1;obtain⟨cs',h1,h2⟩:=h1;exact⟨cs',y,h1,h2⟩
            · have h1:=hR (i-len) (by omega);obtain⟨y,hy⟩:∃ y,rest[i-len]?=some y:=⟨_,Ax (by omega)⟩;rw[hy,BD] at h1;obtain⟨cs',h1,h2⟩:=h1;rw[show len+(i-len)=i by omega] at h1;exact⟨cs',y,h1,h2⟩
           by_cases hc0:cap=0
           · subst hc0
             have:len=0:=by omega
             subst this;exact one .nils _ hc rfl (fun β=>.nils (some a)) (.inl rfl)
           · have hsp:a.spot=none∧a.block<W.heap.size:=by
              obtain⟨cs',y,h1,_⟩:=hcell 0 (by omega);obtain⟨_,h2,h3⟩:=World.cells?_some h1;have h4:=h3 0 (by omega);obtain⟨z,hz⟩:∃ z,cs'[0]?=some z:=⟨_,Ax (by omega)⟩;rw[hz] at h4
              have h5:W.cell? a=some z:=by simpa [Addr.add] using h4
              exact⟨World.cell?_spot h5,mW h5⟩
             obtain⟨ab,ao,asp⟩:=a;obtain⟨hsp,hlt⟩:=hsp;simp only at hsp hlt;subst hsp
             have hcell':∀ i,i<len→∃ cs' y,W.cells? 0 ⟨ab,ao+i*te.w,none⟩ te.w=some cs'∧DataW.trod enc P W 0 (fun _=>true) true n e cs'=some y:=by
              intro i hi;have:=hcell i (by omega);rw[fh,← hw] at this;exact this
             obtain⟨ι1,e1,bs,H1,K1,R1,L1,S1,C1⟩:=Z1 (UB d) hte hw len hcell' ι σ H0 hro;obtain⟨H2,R2⟩:=H1.lay R1 (c:=cap*te.w) (wd:=te.w) hlt C1;have K2:=Oy ι1 (σ++e1) ⟨ab,ao,cap*te.w⟩ ⟨.ro,te.w,bs⟩
             have hg:((σ++e1)++[(⟨.ro,te.w,bs⟩:Blk)])[(σ++e1).length]?=some ⟨.ro,te.w,bs⟩:=by simp
             refine⟨_,e1++[⟨.ro,te.w,bs⟩],[.slice (σ++e1).length 0 len],by rw[← Bw];exact H2,by rw[← Bw];exact K1.trans K2,by rw[← Bw];exact R2,.inr ⟨_,len,bs,rfl,by rw[← Bw];exact hg,L1,by omega,fun i hi=>by rw[← Bw];exact(S1 i hi).mono⟩,by rw[hc];rfl,fun i u z hu hz=>?_⟩;rw[hc] at hz
             cases i with
             | zero=>
               simp at hu hz;subst hu;subst hz;refine⟨rfl,fun β=>?_⟩;have:=Rel.slice (ι:=upd ι1 (σ++e1).length ⟨ab,ao,cap*te.w⟩) (σ:=(σ++e1)++[⟨.ro,te.w,bs⟩]) (β:=β) (σ++e1).length 0 len cap ⟨.ro,te.w,bs⟩ hg hle (by rw[B4];simp) (by first|assumption|(simp only;omega));rw[B4] at this;simpa using this
             |succ i=>simp at hu
       · cases h
     · cases h
   · rename_i fs hu;split at h
     · rename_i ty' hty;split at h
       · rename_i hw;cases h;obtain⟨xs,n,_,_,hl,hxl,hf⟩:=DataW.trod_struct hu hx
         have:=ZL (enc:=enc) d (UB d) fs.toList 0 _ hty n cs (fun g hg=>by
          obtain⟨i,hi⟩:=HM hg;have h1:=hf i g (by simpa using hi)
          have:i<xs.length:=by rw[hxl];have:=Tg hi;simpa using this
          exact⟨_,h1.trans (Ax this)⟩) (by omega) ι σ H0 hro
         simpa using this
       · cases h
     · cases h
   · cases h
end
open Go.RowKit Go.WideShapes Go.ChangeShapes
def XM(P:Program)(d:Nat)(t:TypeId):Option (Ty×Bool):=
 match H5 P d t with
 | some ty=>(match P.underlying t with
   |some (.struct _)=>some (ty,true)
   |some (.int _)|some .bool|some .string|some (.slice _)=>some (ty,false)
   |_=>none)
 |none=>none
def M4(P:Program)(d:Nat):List TypeId→Option (List (Ty×Bool))
 |[]=>some []
 | t::r=>match XM P d t,M4 P d r with
   |some a,some b=>some (a::b)
   |_,_=>none
def ArgOk(σ:Ac):Ty×Bool→V→Prop
 |(ty,true),v=>∃ cs,v= .agg cs∧Sh σ ty cs∧cs.all V.cell=true
 |(ty,false),v=>Sh σ ty [v]∧v.cell=true
def MW(σ:Ac):List (Ty×Bool)→List V→Prop
 |[],[]=>True
 |a::r,v::s=>ArgOk σ a v∧MW σ r s
 |_,_=>False
theorem ArgOk.mono{σ e:Ac}{a:Ty×Bool}{v:V}(h:ArgOk σ a v):ArgOk (σ++e) a v:=by
 obtain⟨ty,b⟩:=a
 cases b with
 |true=>obtain⟨cs,h1,h2,h3⟩:=h;exact⟨cs,h1,h2.mono,h3⟩
 |false=>exact⟨h.1.mono,h.2⟩
theorem ArgOk.noBox{σ:Ac}{a:Ty×Bool}{v:V}(h:ArgOk σ a v):∀ i o,v≠.box i o:=by
 obtain⟨ty,b⟩:=a;intro i o e;subst e
 cases b with
 |true=>obtain⟨cs,h1,_⟩:=h;cases h1
 |false=>have:=h.2;cases this
section
variable {H:Type} {enc:TypeId×Value→H} {P:Program} {W:World} {r:Reach} {base:Nat}
theorem qO {d:Nat} {t:TypeId} {a:Ty×Bool} (ha:XM P d t=some a) {v:Value} {dd:DataW H} {ps:List MemPlace} (h:DataW.Trod enc P W 0 (fun _=>true) true t v dd ps) (hok:Value.okWide P W r base t v)
 (ι:An) (σ:Ac) (H0:HRel ι σ W) (hro:DE σ) :
 ∃ ι' e u,HRel ι' (σ++e) W∧Keeps ι σ ι' (σ++e)∧DE (σ++e)∧ArgOk (σ++e) a u∧∀ β,Rel ι' (σ++e) β u v:=by
 unfold XM at ha
 split at ha
 · rename_i ty hty
   obtain⟨fuel,hx⟩:=h;obtain⟨ι',e,vs,h1,h2,h3,h4,h5,h6⟩:=UB d t ty hty fuel _ _ hx ι σ H0 hro
   have one:∀ (hc:v.cells=#[v]),a=(ty,false)→∃ ι' e u,HRel ι' (σ++e) W∧Keeps ι σ ι' (σ++e)∧DE (σ++e)∧ArgOk (σ++e) a u∧∀ β,Rel ι' (σ++e) β u v:=by
    intro hc ea;rw[hc] at h5 h6
    match vs,h5,h4,h6 with
    | [u],_,h4,h6=>
      obtain⟨c1,c2⟩:=h6 0 u v rfl rfl;exact⟨ι',e,u,h1,h2,h3,by rw[ea];exact⟨h4,c1⟩,c2⟩
   split at ha
   · rename_i fs hu;cases ha;obtain⟨cs,rfl,_⟩:=okWide_struct hu hok;replace h5:vs.length=cs.toList.length:=h5;refine⟨ι',e,.agg vs,h1,h2,h3,⟨vs,rfl,h4,?_⟩,fun β=>?_⟩
     · rw[CE];intro u hu';obtain⟨i,hi⟩:=HM hu'
       have:i<cs.toList.length:=by rw[← h5];exact Tg hi
       exact(h6 i u _ hi (Ax this)).1
     · have:=Rel.agg (ι:=ι') (σ:=σ++e) (β:=β) vs cs.toList h5 (fun u hu'=>by
        obtain⟨i,hi⟩:=HM hu'
        have:i<cs.toList.length:=by rw[← h5];exact Tg hi
        exact(h6 i u _ hi (Ax this)).1) (fun i u w hi hw=>(h6 i u w hi hw).2 β)
       simpa using this
   · rename_i k hu;cases ha;obtain⟨n,rfl⟩:=okWide_int hu hok;exact one rfl rfl
   · rename_i hu;cases ha;obtain⟨n,rfl⟩:=okWide_bool hu hok;exact one rfl rfl
   · rename_i hu;cases ha;obtain⟨n,rfl⟩:=okWide_string hu hok;exact one rfl rfl
   · rename_i el hu;cases ha;obtain⟨x,y,z,rfl⟩:=okWide_slice hu hok;exact one rfl rfl
   · cases ha
 · cases ha
theorem aT{d:Nat}:∀ {ts:List TypeId} {tys:List (Ty×Bool)},M4 P d ts=some tys→∀ {vs:List Value} {ds:List (DataW H)} {ps:List MemPlace},DataW.TrodAll enc P W 0 (fun _=>true) true ts vs ds ps →
 (∀ (j:Nat) t v,ts[j]?=some t→vs[j]?=some v→Value.okWide P W r base t v)→∀ (ι:An) (σ:Ac),HRel ι σ W→DE σ →
 ∃ ι' e us,HRel ι' (σ++e) W∧Keeps ι σ ι' (σ++e)∧DE (σ++e)∧MW (σ++e) tys us∧us.length=vs.length∧∀ (i:Nat) u v,us[i]?=some u→vs[i]?=some v→(∀ j o,u≠.box j o)∧∀ β,Rel ι' (σ++e) β u v
 | [],tys,h,vs,ds,ps,hd,_,ι,σ,H0,hro=>by
   obtain⟨rfl,_,_⟩:=trodAll_nil hd
   cases h
   exact⟨ι,[],[],by simpa using H0,by simpa using Keeps.refl ι σ,by simpa using hro,trivial,rfl,by simp⟩
 | t :: ts,tys,h,vs,ds,ps,hd,hok,ι,σ,H0,hro=>by
   obtain⟨v,vs',x,ds',p,q,rfl,rfl,rfl,h1,h2⟩:=trodAll_cons hd
   unfold M4 at h
   split at h
   · rename_i a b ha hb
     cases h
     obtain⟨ι1,e1,u,H1,K1,R1,A1,C1⟩:=qO ha h1 (hok 0 t v rfl rfl) ι σ H0 hro
     obtain⟨ι2,e2,us,H2,K2,R2,A2,L2,C2⟩:=aT hb h2 (fun j t' v' hj hv=>hok (j+1) t' v' hj hv) ι1 (σ++e1) H1 R1
     refine⟨ι2,e1++e2,u::us,by rw[← Bw];exact H2,by rw[← Bw];exact K1.trans K2,by rw[← Bw];exact R2,by rw[← Bw];exact⟨A1.mono,A2⟩,by simp[L2],fun i u' v' hu hv=>?_⟩
     rw[← Bw]
     cases i with
     | zero=>
       simp at hu hv;subst hu;subst hv
       exact⟨A1.noBox,fun β=>(C1 β).mono K2 (fun j o e=>absurd e (A1.noBox j o))⟩
     |succ i=>exact C2 i u' v' (by simpa using hu) (by simpa using hv)
   · cases h
end
def W7(P:Program)(ts:List TypeId):Bool:=ts.all fun t=>P.readableRec t&&decide (t<P.types.size)
theorem ZH{H:Type}{enc:TypeId×Value→H}{P:Program}(hl:laidOutB P=true){W W':World}{sp':Nat→Bool}:∀ {ts:List TypeId} {vs:List Value} {ds:List (DataW H)} {ps:List MemPlace},W7 P ts=true →
 DataW.TrodAll enc P W 0 (fun _=>true) true ts vs ds ps→(∀ p∈ps,W.sameAt W' p)→(∀ p∈ps,sp' p.block=true)→DataW.TrodAll enc P W' 0 sp' true ts vs ds ps
 | [],vs,ds,ps,_,h,_,_=>by
   obtain⟨rfl,rfl,rfl⟩:=trodAll_nil h
   rfl
 | t::ts,vs,ds,ps,hr,h,h1,h2=>by
   obtain⟨v,vs',x,ds',p,q,rfl,rfl,rfl,g1,g2⟩:=trodAll_cons h
   unfold W7 at hr
   rw[ET,Ai,Ai,A6] at hr
   exact⟨p,q,WideElems.Trod_stays hl hr.1.1 hr.1.2 g1 (fun y hy=>h1 y (by simp[hy])) (fun y hy=>h2 y (by simp[hy])),ZH hl hr.2 g2 (fun y hy=>h1 y (by simp[hy])) (fun y hy=>h2 y (by simp[hy])),rfl⟩
theorem na {H:Type} {enc:TypeId×Value→H} {P:Program} {f:Func} {s:ChangeSpec} {apart fresh handsOn again:Bool} {W W':World} {args:Array Value} {v:Value} {ds gs:List (DataW H)} {before pa pv:List MemPlace}
 (hW:DataW.Whole enc P f.params.toList s.vars apart W args.toList ds gs before)
 (hres:∀ (b:Nat) (sp:Nat→Bool) (hd:Bool),DataW.TrodAll enc P W' b sp hd f.resultTypes.toList (v.resultList f.resultTypes.size) (s.fn H (ds++gs)).results [])
 (hargs:∀ sp:Nat→Bool,(∀ p∈before,sp p.block=true)→DataW.TrodAll enc P W' 0 sp true f.params.toList args.toList (s.fn H (ds++gs)).args pa)
 (hvars:∀ sp:Nat→Bool,(∀ p∈before,sp p.block=true)→DataW.TrodVars enc P W' sp s.vars (s.fn H (ds++gs)).vars pv)
 (hps:before=pa++pv) (hb:Below W.heap.size W W')
 (hok:∀ (j:Nat) (t:TypeId) (r:Value),f.resultTypes[j]?=some t→(v.resultList f.resultTypes.size)[j]?=some r→Value.okWide P W' .any 0 t r) :
 s.post enc P f apart fresh handsOn again W args v W':=by
 have hlt:∀ p∈before,p.block<W.heap.size:=fun p hp=>hW.lt p hp
 have hold:∀ p∈before,(fun b=>decide (b<W.heap.size)) p.block=true:=fun p hp=>by simpa using hlt p hp
 refine⟨ds,gs,before,[],pa,pv,hW,hres _ _ _,hargs _ hold,hvars _ hold,World.keptBut_mono (fun p hp=>⟨hp,?_⟩) (hb.frame (·∈before)),fun _=>?_⟩
 · rw[hps,B6] at hp
   exact Or.inr hp
 · obtain⟨_,_,_,_,_,hz,hn⟩:=hW
   refine⟨hok,_,_,([]++pa)++pv,⟨[]++pa,pv,trodAll_append (hargs _ (fun _ _=>rfl)) (hres _ _ _),hvars _ (fun _ _=>rfl),rfl,?_,?_⟩,?_⟩
   · intro b off hp
     have hin:MemPlace.cell b off∈before:=by rw[hps];simpa using hp
     rw[hb.frozen (hlt _ hin)];exact hz b off hin
   · intro ha;have:=hn ha;rw[hps] at this;simpa using this
   · intro p hp _;rw[hps];simpa using hp
theorem nu {H:Type} {enc:TypeId×Value→H} {P:Program} {f:FuncId} {fn:Func} {s:ChangeSpec} {apart fresh handsOn again:Bool} {sem:A3} {tys:List (Ty×Bool)} {d:Nat} {tb:TypeId}
 (hs:Av P f sem) (has:M4 P d fn.params.toList=some tys) (hrows:W7 P fn.params.toList=true) (hl:laidOutB P=true)
 (hres:fn.resultTypes=#[tb]) (htb:P.underlying tb=some .bool) (hvars:s.vars=[])
 (hspec:∀ ds:List (DataW H),ds.length=tys.length→s.fn H ds={ results:=[.lit (.bool true)],args:=ds })
 (law:∀ (σ:Ac) (us:List V),DE σ→MW σ tys us→sem us σ fun r _=>r= .bool true)
 {W:World} {base:Nat} {args:Array Value} {ds gs:List (DataW H)} {before:List MemPlace}
 (hval:∀ (j:Nat) t v,fn.params[j]?=some t→args[j]?=some v→Value.okWide P W .any base t v)
 (hW:DataW.Whole enc P fn.params.toList s.vars apart W args.toList ds gs before) (hgl:GlW P W) :
 Calls P f args W fun e W'=>∃ v,e= .returned v∧s.post enc P fn apart fresh handsOn again W args v W':=by
 have hW':=hW
 obtain⟨p,q,hA,hV,rfl,hfz,hnd⟩:=hW
 rw[hvars] at hV
 obtain⟨rfl,rfl⟩:=trodVars_none hV
 rw[JZ] at hW'
 obtain⟨ι,e,us,H1,_,R1,A1,L1,C1⟩:=aT (d:=d) has hA (fun j t v hj hv=>hval j t v (by simpa using hj) (by simpa using hv)) (fun _=>⟨0,0,0⟩) [] ⟨by simp,by simp,by simp,by simp⟩ (fun l b h=>by simp at h)
 simp only[Cj] at H1 R1 A1 C1
 have hc:=hs Phm.no ι e W us args.toList _ (.no e) (by rw[Pj];exact H1) (by rw[Pj];exact⟨L1,fun i u v hu hv=>(C1 i u v hu hv).2⟩) (law e us R1 A1) ⟨hgl,fun nm hn g hg l blk hl hk=>by rw[Pj] at hl;have:=R1 l blk hl;rw[hk] at this;cases this⟩
 have hlen:ds.length=tys.length:=by
  have h1:∀ {ts:List TypeId} {tys:List (Ty×Bool)},M4 P d ts=some tys→tys.length=ts.length:=by
   intro ts
   induction ts with
   |nil=>intro tys h;cases h;rfl
   | cons t ts ih=>
     intro tys h;unfold M4 at h;split at h
     · rename_i a b _ hb;cases h;simp[ih hb]
     · cases h
  have h2:∀ {ts:List TypeId} {vs:List Value} {ds:List (DataW H)} {ps:List MemPlace},DataW.TrodAll enc P W 0 (fun _=>true) true ts vs ds ps→ds.length=ts.length:=by
   intro ts
   induction ts with
   |nil=>intro vs ds ps h;obtain⟨_,rfl,_⟩:=trodAll_nil h;rfl
   | cons t ts ih=>
     intro vs ds ps h;obtain⟨v,vs',x,ds',p,q,rfl,rfl,rfl,_,g2⟩:=trodAll_cons h;simp[ih g2]
  rw[h1 has,h2 hA]
 refine(Calls.mono (by simpa using hc) fun en W' hd=>?_:Calls P f args W _)
 obtain⟨x,r,σ',ι',rfl,rfl,_,hx,_,hstep⟩:=hd
 rw[Pj,Pj] at hstep
 have hx':=hx (fun _=>0)
 cases hx'
 have hb:Below W.heap.size W W':=⟨hstep.os,hstep.tape,hstep.output,hstep.size,fun k hk=>hstep.frame k hk fun l blk hl hk'=>by have:=R1 l blk hl;rw[hk'] at this;cases this⟩
 have hfn:=hspec (ds++[]) (by simpa using hlen)
 have hlt:∀ x∈p,x.block<W.heap.size:=fun x hx=>hW'.lt x hx
 refine⟨_,rfl,na (pa:=p) (pv:=[]) hW' (fun _ _ _=>?_) (fun sp hsp=>?_) (fun sp _=>?_) (by simp) hb (ok_one hres rfl (okWide_bool_mk htb true))⟩
 · rw[hfn,hres]
   exact trodAll_cons_mk (shut_bool htb true) trodAll_mk0
 · rw[hfn]
   simp only[JZ];exact ZH hl hrows hA (fun x hx=>hb.same (hlt x hx)) hsp
 · rw[hfn,hvars]
   rfl
open Go.ChangeShapes
mutual
def CT.wf:(t:CT)→t.D→Prop
 |.int k,n=>(Lit.int k n).wf=true
 |.bool,_=>True
 |.str,s=>s.length≤maxLen
 |.ifc,_=>True
 |.sl r,l=>@List.length r.D l≤maxLen∧∀ x:r.D,@Membership.mem r.D (List r.D) inferInstance l x→RT.wf r x
 |.slf _,_=>False
def RT.wf:(r:RT)→r.D→Prop
 |.one t,x=>CT.wf t x
 |.cons t r,x=>CT.wf t x.1∧RT.wf r x.2
end
def AgX.wf:(l:List (Ql×CT))→AgX l→Prop
 |[],_=>True
 |[a],x=>a.2.wf x
 |a::b::r,x=>a.2.wf x.1∧AgX.wf (b::r) x.2
def HT.wf:(h:HT)→h.D→Prop
 |.one _ t,x=>t.wf x
 |.agg l,x=>AgX.wf l x
def TuX.wf:(l:List HT)→TuX l→Prop
 |[],_=>True
 |[a],x=>a.wf x
 |a::b::r,x=>a.wf x.1∧TuX.wf (b::r) x.2
def FX:List CT→RT
 |[]=>.one .bool
 |[a]=>.one a
 |a::b::r=>.cons a (FX (b::r))
def Ty.cts:Ty→List CT
 |.int k=>[.int k]
 |.bool=>[.bool]
 |.str=>[.str]
 |.sl t=>[.sl (FX t.cts)]
 |.unit=>[]
 |.pair a b=>a.cts++b.cts
def Ty.good:Ty→Bool
 |.sl t=>Nat.blt 0 t.w&&t.good
 |.pair a b=>a.good&&b.good
 |_=>true
def Kb:Ty×Bool→HT
 |(ty,true)=>.agg (ty.cts.map fun t=>(.frz,t))
 |(ty,false)=>match ty.cts with|[c]=>.one .frz c|_=>.agg []
def Sx:Ty×Bool→Bool
 |(ty,true)=>ty.good
 |(ty,false)=>ty.good&&ty.cts.length == 1
def DL:List CT→Type
 |[]=>Unit
 |a::r=>a.D×DL r
def DL.wf:(l:List CT)→DL l→Prop
 |[],_=>True
 |a::r,x=>a.wf x.1∧DL.wf r x.2
def DL.enc:(l:List CT)→DL l→List PV
 |[],_=>[]
 |a::r,x=>CT.enc a x.1::DL.enc r x.2
def DL.encF:(l:List CT)→DL l→List PV
 |[],_=>[]
 |a::r,x=>(CT.dv .frz a x.1).enc::DL.encF r x.2
def DL.app:(l m:List CT)→DL l→DL m→DL (l++m)
 |[],_,_,y=>y
 |_::l,m,x,y=>(x.1,DL.app l m x.2 y)
theorem DL.app_enc:∀ (l m:List CT) (x:DL l) (y:DL m),DL.enc (l++m) (DL.app l m x y)=DL.enc l x++DL.enc m y
 |[],_,_,_=>rfl
 | a::l,m,x,y=>by
   show CT.enc a x.1::DL.enc (l++m) (DL.app l m x.2 y)=CT.enc a x.1::(DL.enc l x.2++DL.enc m y)
   rw[DL.app_enc l m x.2 y]
theorem DL.app_encF:∀ (l m:List CT) (x:DL l) (y:DL m),DL.encF (l++m) (DL.app l m x y)=DL.encF l x++DL.encF m y
 |[],_,_,_=>rfl
 | a::l,m,x,y=>by
   show (CT.dv .frz a x.1).enc::DL.encF (l++m) (DL.app l m x.2 y)=(CT.dv .frz a x.1).enc::(DL.encF l x.2++DL.encF m y)
   rw[DL.app_encF l m x.2 y]
theorem DL.app_wf:∀ (l m:List CT) (x:DL l) (y:DL m),DL.wf l x→DL.wf m y→DL.wf (l++m) (DL.app l m x y)
 |[],_,_,_,_,h=>h
 |_::l,m,x,y,h,h'=>⟨h.1,DL.app_wf l m x.2 y h.2 h'⟩
theorem DL.len:∀ (l:List CT) (x:DL l),(DL.enc l x).length=l.length
 |[],_=>rfl
 |_::l,x=>by show _+1=_+1;rw[DL.len l x.2]
theorem DL.lenF:∀ (l:List CT) (x:DL l),(DL.encF l x).length=l.length
 |[],_=>rfl
 |_::l,x=>by show _+1=_+1;rw[DL.lenF l x.2]
def DL.rt:(l:List CT)→DL l→(FX l).D
 |[],_=>false
 |[_],x=>x.1
 |_::b::r,x=>(x.1,DL.rt (b::r) x.2)
theorem DL.rt_enc:∀ (l:List CT) (x:DL l),l≠[]→RT.enc (FX l) (DL.rt l x)=DL.enc l x
 |[],_,h=>absurd rfl h
 |[_],_,_=>rfl
 | a::b::r,x,_=>by
   show CT.enc a x.1::RT.enc (FX (b::r)) (DL.rt (b::r) x.2)=CT.enc a x.1::DL.enc (b::r) x.2
   rw[DL.rt_enc (b::r) x.2 (by simp)]
theorem DL.rt_wf:∀ (l:List CT) (x:DL l),l≠[]→DL.wf l x→RT.wf (FX l) (DL.rt l x)
 |[],_,h,_=>absurd rfl h
 |[_],_,_,h=>h.1
 |a::b::r,x,_,h=>⟨h.1,DL.rt_wf (b::r) x.2 (by simp) h.2⟩
def DL.ag:(l:List CT)→DL l→AgX (l.map fun t=>(Ql.frz,t))
 |[],_=>()
 |[_],x=>x.1
 |_::b::r,x=>(x.1,DL.ag (b::r) x.2)
theorem DL.ag_enc:∀ (l:List CT) (x:DL l),DV.encL (Nq (l.map fun t=>(Ql.frz,t)) (DL.ag l x))=DL.encF l x
 |[],_=>rfl
 |[_],_=>rfl
 | a::b::r,x=>by
   show (CT.dv .frz a x.1).enc::DV.encL (Nq ((b::r).map fun t=>(Ql.frz,t)) (DL.ag (b::r) x.2))=(CT.dv .frz a x.1).enc::DL.encF (b::r) x.2
   rw[DL.ag_enc (b::r) x.2]
theorem DL.ag_wf:∀ (l:List CT) (x:DL l),DL.wf l x→AgX.wf (l.map fun t=>(Ql.frz,t)) (DL.ag l x)
 |[],_,_=>trivial
 |[_],_,h=>h.1
 |a::b::r,x,h=>⟨h.1,DL.ag_wf (b::r) x.2 h.2⟩
theorem IX:∀ (t:Ty),t.cts.length=t.w
 |.int _|.bool|.str|.sl _|.unit=>rfl
 |.pair a b=>by simp only[Ty.cts,Ty.w,Cz,IX a,IX b]
def ωro(σ:Ac):Nat→W:=fun l=>if l<σ.length then .frz else .none
theorem ωro_frz{σ:Ac}{l:Nat}{b:Blk}(h:σ[l]?=some b):ωro σ l= .frz:=by
 unfold ωro;rw[Ab (B5 h)]
theorem Q7:∀ (a b:List PV) (i:Nat),i<a.length→Aa (a++b) i=Aa a i
 |[],_,_,h=>by cases h
 |_::_,_,0,_=>rfl
 |_::a,b,i+1,h=>Q7 a b i (by simpa using h)
theorem QY:∀ (a b:List PV) (i:Nat),Aa (a++b) (a.length+i)=Aa b i
 |[],_,_=>by simp
 | _::a,b,i=>by
   have:=QY a b i
   simp only[BW,Ay,WH]
   exact this
theorem UE:∀ (a b:List V) (i:Nat),i<a.length→get (a++b) i=get a i
 |[],_,_,h=>by cases h
 |_::_,_,0,_=>rfl
 |_::a,b,i+1,h=>UE a b i (by simpa using h)
theorem Ux:∀ (a b:List V) (i:Nat),get (a++b) (a.length+i)=get b i
 |[],_,_=>by simp
 | _::a,b,i=>by
   have:=Ux a b i
   simp only[BW,Ay,WH]
   exact this
theorem Uy:∀ (l:List V) (o n i:Nat),i<n→get ((l.drop o).take n) i=get l (o+i)
 |[],o,n,i,_=>by simp[get]
 |c::r,0,0,i,h=>by cases h
 |c::r,0,n+1,0,_=>rfl
 | c::r,0,n+1,i+1,h=>by
   have:=Uy r 0 n i (by omega)
   simp only[Bv] at this
   simp only[MX,Xx,get,Bv]
   simpa using this
 | c::r,o+1,n,i,h=>by
   have:=Uy r o n i h
   rw[List.drop_succ_cons,this,WH]
   rfl
theorem bw{w:Nat}:∀ (es:List (List PV)) (i j:Nat),(∀ e∈es,e.length=w)→j<w→i<es.length→Aa es.flatten (i*w+j)=Aa (AN es i) j
 |[],i,_,_,_,h=>by cases h
 | e::r,0,j,hw,hj,_=>by
   have he:=hw e (Xd ..)
   rw[IZ,Bv,FJ,Q7 _ _ _ (by omega)]
   rfl
 | e::r,i+1,j,hw,hj,h=>by
   have he:=hw e (Xd ..)
   rw[FJ,show (i+1)*w+j=e.length+(i*w+j) by rw[he,Lg];omega,QY]
   exact bw r i j (fun e h=>hw e (List.mem_cons_of_mem _ h)) hj (by simpa using h)
theorem cA {α:Type}(f:α→List PV):∀ (l:List α) (i:Nat) (h:i<l.length),AN (l.map f) i=f l[i]
 |[],_,h=>by cases h
 |_::_,0,_=>rfl
 |_::l,i+1,h=>cA f l i (by simpa using h)
theorem O2{σ:Ac}:∀ (ty:Ty) {cs:List V},ty.good=true→Sh σ ty cs→∃ x:DL ty.cts,DL.wf ty.cts x ∧
 (∀ i,RC σ (ωro σ) .fz (Aa (DL.enc ty.cts x) i) (get cs i))∧∀ i hd p,RC σ (ωro σ) (.at hd p) (Aa (DL.encF ty.cts x) i) (get cs i)
 | .int k,cs,_,⟨n,h,hw⟩=>by
   subst h;exact⟨(n,()),⟨hw,trivial⟩,fun i=>by cases i<;>first|exact .v _ _ rfl|exact .undef _ _,fun i hd p=>by cases i<;>first|exact .v _ _ rfl|exact .undef _ _⟩
 | .bool,cs,_,⟨b,h⟩=>by
   subst h;exact⟨(b,()),⟨trivial,trivial⟩,fun i=>by cases i<;>first|exact .v _ _ rfl|exact .undef _ _,fun i hd p=>by cases i<;>first|exact .v _ _ rfl|exact .undef _ _⟩
 | .str,cs,_,⟨s,h,hl⟩=>by
   subst h;exact⟨(s,()),⟨hl,trivial⟩,fun i=>by cases i<;>first|exact .v _ _ rfl|exact .undef _ _,fun i hd p=>by cases i<;>first|exact .v _ _ rfl|exact .undef _ _⟩
 | .unit,cs,_,h=>by
   have h:cs=[]:=h;subst h;exact⟨(),trivial,fun i=>.undef _ _,fun i hd p=>.undef _ _⟩
 | .pair a b,cs,hg,⟨xs,ys,h,h1,h2⟩=>by
   simp only[Ty.good,Ai] at hg;obtain⟨x,x1,x2,x3⟩:=O2 a hg.1 h1;obtain⟨y,y1,y2,y3⟩:=O2 b hg.2 h2;have hl:=h1.len;subst h;refine⟨DL.app _ _ x y,DL.app_wf _ _ x y x1 y1,fun i=>?_,fun i hd p=>?_⟩
   · simp only[Ty.cts];rw[DL.app_enc];by_cases hi:i<a.w
     · rw[Q7 _ _ _ (by rw[DL.len,IX];exact hi),UE _ _ _ (by rw[hl];exact hi)];exact x2 i
     · obtain⟨j,rfl⟩:=Nat.exists_eq_add_of_le (Nat.le_of_not_lt hi);have e1:=QY (DL.enc a.cts x) (DL.enc b.cts y) j;have e2:=Ux xs ys j;rw[DL.len,IX] at e1;rw[hl] at e2;rw[e1,e2];exact y2 j
   · simp only[Ty.cts];rw[DL.app_encF];by_cases hi:i<a.w
     · rw[Q7 _ _ _ (by rw[DL.lenF,IX];exact hi),UE _ _ _ (by rw[hl];exact hi)];exact x3 i hd p
     · obtain⟨j,rfl⟩:=Nat.exists_eq_add_of_le (Nat.le_of_not_lt hi);have e1:=QY (DL.encF a.cts x) (DL.encF b.cts y) j;have e2:=Ux xs ys j;rw[DL.lenF,IX] at e1;rw[hl] at e2;rw[e1,e2];exact y3 j hd p
 | .sl t,cs,hg,h=>by
   simp only[Ty.good,Ai] at hg;have hw0:0<t.w:=CF hg.1
   have hne:t.cts≠[]:=by intro e;have:=IX t;rw[e] at this;simp only[AJ] at this;omega
   rcases h with h|⟨l,n,bs,h,hb,hbl,hn,he⟩
   · subst h;refine⟨(([]:List (FX t.cts).D),()),⟨⟨Ge _,fun x hx=>by cases hx⟩,trivial⟩,fun i=>?_,fun i hd p=>?_⟩
     · cases i<;>first|exact .nil _ _|exact .undef _ _
     · cases i<;>first|exact .nil _ _|exact .undef _ _
   · subst h
     have ex:∀ i,∃ x:DL t.cts,i<n→DL.wf t.cts x∧(∀ k,RC σ (ωro σ) .fz (Aa (DL.enc t.cts x) k) (get ((bs.drop (i*t.w)).take t.w) k)):=by
      intro i;by_cases hi:i<n
      · obtain⟨x,h1,h2,_⟩:=O2 t hg.2 (he i hi);exact⟨x,fun _=>⟨h1,h2⟩⟩
      · have h0:∀ l:List CT,Nonempty (DL l):=by
         intro l
         induction l with
         |nil=>exact⟨()⟩
         |cons a r ih=>obtain⟨y⟩:=ih;exact⟨(a.dflt,y)⟩
        obtain⟨y⟩:=h0 t.cts;exact⟨y,fun h=>absurd h hi⟩
     let f:Nat→DL t.cts:=fun i=>Classical.choose (ex i)
     have hf:∀ i,i<n→DL.wf t.cts (f i)∧∀ k,RC σ (ωro σ) .fz (Aa (DL.enc t.cts (f i)) k) (get ((bs.drop (i*t.w)).take t.w) k):=fun i hi=>Classical.choose_spec (ex i) hi
     let L:List (FX t.cts).D:=(List.range n).map fun i=>DL.rt t.cts (f i)
     have hL:L.length=n:=by simp[L]
     have hLw:∀ e∈L.map (RT.enc (FX t.cts)),e.length=t.w:=by
      intro e he;obtain⟨y,hy,rfl⟩:=List.mem_map.mp he;obtain⟨i,_,rfl⟩:=List.mem_map.mp hy;rw[DL.rt_enc _ _ hne,DL.len,IX]
     have hcell:∀ k,k<L.length*t.w→RC σ (ωro σ) .fz (Aa (L.map (RT.enc (FX t.cts))).flatten k) (get bs (0+k)):=by
      intro k hk
      have hdm:k / t.w*t.w+k % t.w=k:=by rw[S5];exact SU k t.w
      have hmod:=I9 k hw0
      have hdiv:k / t.w<n:=by rw[hL] at hk;exact(Tb hw0).2 hk
      have e1:=bw (L.map (RT.enc (FX t.cts))) (k / t.w) (k % t.w) hLw hmod (by rw[A0,hL];exact hdiv);rw[hdm] at e1;rw[e1,cA _ _ _ (by rw[hL];exact hdiv),Bv];have e2:=Uy bs (k / t.w*t.w) t.w (k % t.w) hmod;rw[hdm] at e2
      have e3:L[k / t.w]'(by rw[hL];exact hdiv)=DL.rt t.cts (f (k / t.w)):=by simp[L]
      rw[e3,DL.rt_enc _ _ hne,← e2];exact(hf _ hdiv).2 _
     have hwf:∀ x∈L,RT.wf (FX t.cts) x:=by
      intro x hx;obtain⟨i,hi,rfl⟩:=List.mem_map.mp hx;exact DL.rt_wf _ _ hne (hf i (List.mem_range.mp hi)).1
     have hle:0+(L.map (RT.enc (FX t.cts))).length*t.w≤bs.length:=by rw[A0,hL,hbl];omega
     refine⟨(L,()),⟨⟨by rw[hL];exact hn,hwf⟩,trivial⟩,fun i=>?_,fun i hd p=>?_⟩
     · cases i with
       |succ i=>exact .undef _ _
       |zero=>exact .sl _ _ _ _ _ _ _ hb (by simp) (ωro_frz hb) (fun e=>by cases e) (by rw[A0,hL]) hLw hle fun k hk=>hcell k (by rw[A0] at hk;exact hk)
     · cases i with
       |succ i=>exact .undef _ _
       |zero=>exact .sl _ _ _ _ _ _ _ hb (by simp) (ωro_frz hb) (fun _ e=>by rcases e with e|⟨_,_,e⟩<;>cases e) (by rw[A0,hL]) hLw hle fun k hk=>hcell k (by rw[A0] at hk;exact hk)
structure ArgD (σ:Ac) (v:PV) (u:V):Prop where
 rc:∀ hd p c,RC σ (ωro σ) (.at hd p) (v.fcell c) (u.fcell c)
 sh:AK v u
 nx:∀ c i pb tp,(v.fcell c).q≠some (.bor (.x i) pb tp)
theorem uX{v:V}(h:v.cell=true):(∀ us,v≠.agg us)∧∀ us,v≠.tup us:=by
 constructor<;>rintro us rfl<;>cases h
theorem XK:∀ (l:List CT) (x:DL l) (i:Nat) (a:Hd) (pb:List Nat) (tp:Bool),(Aa (DL.encF l x) i).q≠some (.bor a pb tp)
 |[],_,_,_,_,_=>by simp[DL.encF,Aa,PV.q]
 |c::r,x,0,a,pb,tp=>by cases c<;>simp[DL.encF,Aa,CT.dv,DV.enc,PV.q]
 |_::r,x,i+1,a,pb,tp=>XK r x.2 i a pb tp
theorem cy{σ:Ac}{a:Ty×Bool}{u:V}(hg:Sx a=true)(h:ArgOk σ a u):∃ x:(Kb a).D,(Kb a).wf x∧ArgD σ ((Kb a).dv x).enc u:=by
 obtain⟨ty,b⟩:=a
 cases b with
 | true=>
   obtain⟨cs,rfl,hs,hc⟩:=h;obtain⟨x,h1,_,h3⟩:=O2 ty hg hs;have hle:=hs.len;refine⟨DL.ag ty.cts x,DL.ag_wf _ _ h1,?_⟩
   have he:((Kb (ty,true)).dv (DL.ag ty.cts x)).enc= .agg (DL.encF ty.cts x):=by
    show PV.agg _=PV.agg _;rw[DL.ag_enc]
   rw[he];refine⟨fun hd p c=>?_,⟨cs,rfl,by rw[hle,DL.lenF,IX]⟩,fun c i pb tp=>?_⟩
   · match c with
     |[]=>exact .undef _ _
     |[c]=>exact h3 c hd p
     |_::_::_=>exact .undef _ _
   · match c with
     |[]=>simp[PV.fcell,PV.q]
     |[c]=>exact XK _ _ _ _ _ _
     |_::_::_=>simp[PV.fcell,PV.q]
 | false =>
   obtain⟨hs,hc⟩:=h;simp only[Sx,Ai,AV] at hg;obtain⟨x,h1,_,h3⟩:=O2 ty hg.1 hs
   have key:∀ (l:List CT) (x:DL l),l.length=1→DL.wf l x→(∀ i hd p,RC σ (ωro σ) (.at hd p) (Aa (DL.encF l x) i) (get [u] i)) →
    ∃ y:(match l with|[c]=>HT.one .frz c|_=>HT.agg []).D,(match l with|[c]=>HT.one .frz c|_=>HT.agg []).wf y∧ArgD σ ((match l with|[c]=>HT.one .frz c|_=>HT.agg []).dv y).enc u:=by
    intro l x hl hwf h3
    match l,x,hl,hwf,h3 with
    | [c],x,_,hwf,h3=>
      have hsc:=uX hc
      have hnf:∀ p,p≠[0]→((CT.dv .frz c x.1).enc).fcell p= .fl .undef:=by
       intro p hp;cases c<;>(match p with|[]=>rfl|[0]=>exact absurd rfl hp|(_+1)::_=>rfl|0::_::_=>rfl)
      have hf0:((CT.dv .frz c x.1).enc).fcell [0]=(CT.dv .frz c x.1).enc:=by cases c<;>rfl
      have hu0:u.fcell [0]=u:=by cases u<;>first|rfl|exact absurd rfl (hsc.1 _)|exact absurd rfl (hsc.2 _)
      refine⟨x.1,hwf.1,⟨fun hd p q=>?_,?_,fun q i pb tp=>?_⟩⟩
      · by_cases hq:q=[0]
        · subst hq;show RC σ (ωro σ) (.at hd p) (((CT.dv .frz c x.1).enc).fcell [0]) (u.fcell [0]);rw[hf0,hu0];exact h3 0 hd p
        · show RC σ (ωro σ) (.at hd p) (((CT.dv .frz c x.1).enc).fcell q) (u.fcell q);rw[hnf q hq];exact .undef _ _
      · show AK ((CT.dv .frz c x.1).enc) u;cases c<;>exact hsc
      · show (((CT.dv .frz c x.1).enc).fcell q).q≠_;by_cases hq:q=[0]
        · subst hq;rw[hf0];exact XK [c] x 0 _ _ _
        · rw[hnf q hq];simp[PV.q]
   exact key ty.cts x hg.2 h1 h3
theorem Vc{σ:Ac}:∀ {tys:List (Ty×Bool)} {us:List V},tys.all Sx=true→MW σ tys us→∃ x:TuX (tys.map Kb),TuX.wf _ x∧us.length=tys.length ∧
 ∀ t,ArgD σ (Aa (DV.encL (En (tys.map Kb) x)) t) (get us t)
 |[],[],_,_=>⟨(),trivial,rfl,fun t=>⟨fun hd p c=>by
  have:(PV.fl V.undef).fcell c= .fl .undef:=by match c with|[]=>rfl|[0]=>rfl|(_+1)::_=>rfl|0::_::_=>rfl
  show RC σ (ωro σ) (.at hd p) ((PV.fl V.undef).fcell c) _
  rw[this];exact .undef _ _,trivial,fun c i pb tp=>by
  have:(PV.fl V.undef).fcell c= .fl .undef:=by match c with|[]=>rfl|[0]=>rfl|(_+1)::_=>rfl|0::_::_=>rfl
  show ((PV.fl V.undef).fcell c).q≠_
  rw[this];simp[PV.q]⟩⟩
 | [a],[u],hg,h=>by
   simp only[ET,Ta,Jd] at hg;obtain⟨x,h1,h2⟩:=cy hg h.1;obtain⟨_,_,_,h4⟩:=Vc (σ:=σ) (tys:=[]) (us:=[]) rfl trivial;refine⟨x,h1,rfl,fun t=>?_⟩
   cases t with
   |zero=>exact h2
   |succ t=>exact h4 t
 | a::b::r,u::us,hg,h=>by
   rw[ET,Ai] at hg;obtain⟨x,h1,h2⟩:=cy hg.1 h.1;obtain⟨y,h3,h4,h5⟩:=Vc (tys:=b::r) (us:=us) hg.2 h.2;refine⟨(x,y),⟨h1,h3⟩,by simp[h4],fun t=>?_⟩
   cases t with
   |zero=>exact h2
   |succ t=>exact h5 t
 |[_],_::_::_,_,h=>h.2.elim
 |[_],[],_,h=>h.elim
 |_::_::_,[],_,h=>h.elim
 |[],_::_,_,h=>h.elim
theorem xD{σ:Ac}{as:List PV}{us:List V}(hl:as.length=us.length)(h:∀ t,ArgD σ (Aa as t) (get us t)):RS σ (ωro σ) (ωro σ) (fun _=>0) ⟨as,[],[]⟩ ⟨us,[],σ⟩ X0:=by
 have no:∀ l hd p,ωro σ l≠.own hd p:=by intro l hd p e;unfold ωro at e;split at e<;>cases e
 have nop:∀ l i,ωro σ l≠.ptr i:=by intro l i e;unfold ωro at e;split at e<;>cases e
 have hund:∀ c,(PV.fl V.undef).fcell c= .fl .undef:=by
  intro c;match c with|[]=>rfl|[0]=>rfl|(_+1)::_=>rfl|0::_::_=>rfl
 have cat:∀ (c:List Nat) (l:List V),(AP [] l c).1= .fl .undef:=by
  intro c l;match c with|[]=>rfl|[_]=>rfl|_::_::_=>rfl
 refine⟨⟨fun hd p=>?_,fun l l' hd p e=>absurd e (no l hd p),fun l l' i e=>absurd e (nop l i),fun l e=>?_,fun l e=>?_⟩,fun t=>(h t).sh,fun i=>trivial,hl,rfl,fun i=>rfl,fun i c=>rfl,fun i c=>rfl,fun i hi=>(by cases hi),fun l i e=>absurd e (nop l i),fun l i p e=>absurd e (no l _ p),⟨AH _,fun l _ _=>⟨rfl,rfl⟩,fun l hlt e=>(by rw[e];simp),fun l i e=>e⟩,fun hd p i pb tp=>?_⟩
 · cases hd with
   |s t=>exact(h t).rc _ _ _
   |b i=>show RC σ (ωro σ) _ (AP [] (AD [] i) p).1 _;rw[cat];exact .undef _ _
   |h i=>show RC σ (ωro σ) _ (AP [] _ p).1 _;rw[cat];exact .undef _ _
   |x i=>show RC σ (ωro σ) _ ((PV.fl V.undef).fcell p) _;rw[hund];exact .undef _ _
 · rcases e with⟨hd,p,e⟩|⟨i,e⟩
   · exact absurd e (no l hd p)
   · exact absurd e (nop l i)
 · unfold ωro at e;split at e
   · assumption
   · cases e
 · cases hd with
   |s t=>exact(h t).nx p i pb tp
   |b j=>show (AP [] (AD [] j) p).1.q≠_;rw[cat];simp[PV.q]
   |h j=>show (AP [] _ p).1.q≠_;rw[cat];simp[PV.q]
   |x j=>show ((PV.fl V.undef).fcell p).q≠_;rw[hund];simp[PV.q]
theorem wq {f:DFun} {tys:List (Ty×Bool)} {hs:List HT} {s:A3} (hsp:Gi s (MP f.er)) (hhs:tys.map Kb=hs) (hg:tys.all Sx=true) (ho:AllD f.body.obs)
 (hst:Ns f hs (.one (.one .own .bool))=true) (hc:∀ x,Nj f hs (.one (.one .own .bool)) x=true)
 (law:∀ x:TuX hs,TuX.wf hs x→LB f hs (.one (.one .own .bool)) x∧LJ f hs (.one (.one .own .bool)) x=true) (σ:Ac) (us:List V) (hro:DE σ) (ha:MW σ tys us):s us σ fun r _=>r= .bool true:=by
 subst hhs
 obtain⟨x,h1,h2,h3⟩:=Vc hg ha
 obtain⟨l1,l2⟩:=law x h1
 have hlen:(DV.encL (En (tys.map Kb) x)).length=us.length:=by rw[EN,RY,A0,h2]
 refine hsp σ (ωro σ) (fun _=>0) _ us [] (fun r _=>r= .fl (.bool true)) _ (xD hlen h3) (fun l hd p e=>?_) ?_ fun u h' r H' ω' ρ' hQ R' _=>?_
 · exfalso;unfold ωro at e;split at e<;>cases e
 · refine dM ho hst x (hc x) l1 fun H=>?_
   rw[l2];rfl
 · subst hQ
   have r:=R'.core.rc (.x 0) [0];have hs:=R'.shx 0;have r:RC h' ω' (.at (.x 0) [0]) (.fl (.bool true)) (u.fcell [0]):=r
   have hu:u.fcell [0]=u:=by
    have hs:AK (.fl (.bool true)) u:=hs
    cases u<;>first|rfl|exact absurd rfl (hs.1 _)|exact absurd rfl (hs.2 _)
   rw[hu] at r;cases r;rfl
theorem xj(x:V)(r:List V):get (x::r) 0=x:=id rfl
theorem xa(x:V)(r:List V)(n:Nat):get (x::r) (n+1)=get r n:=id rfl
theorem xU(s:List V)(n:Nat):(Opnd.t n).ev s=get s n:=id rfl
theorem xY(s:List V)(v:V):(Opnd.c v).ev s=v:=id rfl
def rk(pu:Bool)(res:List ARes)(h0:Ac)(Q:V→Ac→Prop):BZ:=TD ⟨0,0,0,pu,res,.skip⟩ h0 Q
theorem Vi{np ns nb:Nat}{pu:Bool}{res:List ARes}{body:ACode}{args:List V}{h:Ac}{Q:V→Ac→Prop}(hl:args.length=np)(hb:BB body (rk pu res h Q) ⟨args++FV (ns-np),FU nb,h⟩) :
 JS ⟨np,ns,nb,pu,res,body⟩ args h Q:=⟨hl,hb⟩
theorem tF(k:BZ)(st:St):BB .skip k st=k .normal st:=rfl
theorem pQ(o:List AOper)(k:BZ)(st:St):BB (.region o) k st=Bt o (k .normal) st:=rfl
theorem vJ(a b:ACode)(k:BZ)(st:St):BB (.seq a b) k st=BB a (E1 (BB b k) k) st:=rfl
theorem rA(i:Nat)(a:ACode)(k:BZ)(st:St):BB (.block i a) k st=BB a (G3 i k) st:=rfl
theorem uc(i:Nat)(k:BZ)(st:St):BB (.exit i) k st=k (.exit i) st:=rfl
theorem vR(k:BZ)(st:St):BB .ret k st=k .ret st:=rfl
theorem sE{c:Opnd}{a b:ACode}{k:BZ}{st:St}(h:c.ev st.sl= .bool true):BB (.cond c a b) k st=BB a k st:=by simp only[BB,h,AE]
theorem rS{c:Opnd}{a b:ACode}{k:BZ}{st:St}(h:c.ev st.sl= .bool false):BB (.cond c a b) k st=BB b k st:=by simp only[BB,h];rfl
theorem nW(n:St→Prop)(k:BZ)(st:St):E1 n k .normal st=n st:=rfl
theorem s6(n:St→Prop)(k:BZ)(st:St):E1 n k .ret st=k .ret st:=rfl
theorem qt(n:St→Prop)(k:BZ)(i:Nat)(st:St):E1 n k (.exit i) st=k (.exit i) st:=rfl
theorem m8(i:Nat)(k:BZ)(st:St):G3 i k .normal st=k .normal st:=rfl
theorem px(i:Nat)(k:BZ)(st:St):G3 i k .ret st=k .ret st:=rfl
theorem ox(i j:Nat)(k:BZ)(st:St):G3 i k (.exit j) st=if j=i then k .normal st else k (.exit j) st:=rfl
theorem sV(n:St→Prop)(k:BZ):E1 n k .normal=n:=rfl
theorem pM(i:Nat)(k:BZ):G3 i k .normal=k .normal:=rfl
theorem tw(k:St→Prop)(st:St):Bt [] k st=k st:=rfl
theorem s4{i:Nat}{d:Option Nat}{o:AOp}{a:List Nat}{r:List AOper}{k:St→Prop}{st:St}:Bt (⟨i,d,o,none,a⟩::r) k st=As o d (Bt r k) st:=rfl
theorem u7{i:Nat}{d:Option Nat}{o:AOp}{g:Nat}{w:Bool}{a:List Nat}{r:List AOper}{k:St→Prop}{st:St}(h:get st.sl g= .bool w):Bt (⟨i,d,o,some (g,w),a⟩::r) k st=As o d (Bt r k) st:=by
 simp only[Bt,BP,h,AE]
theorem dy{i:Nat}{d:Option Nat}{o:AOp}{g:Nat}{w b:Bool}{a:List Nat}{r:List AOper}{k:St→Prop}{st:St}(h:get st.sl g= .bool b)(hn:b≠w):Bt (⟨i,d,o,some (g,w),a⟩::r) k st=Bt r k (st.put d (.tup [])):=by
 simp only[Bt,BP,h,Ad hn]
theorem qR{i:Nat}{d:Option Nat}{o:AOp}{g:Nat}{a:List Nat}{r:List AOper}{k:St→Prop}{st:St}(h:get st.sl g= .bool false):Bt (⟨i,d,o,some (g,true),a⟩::r) k st=Bt r k (st.put d (.tup [])):=dy h (by decide)
theorem rB{i:Nat}{d:Option Nat}{o:AOp}{g:Nat}{a:List Nat}{r:List AOper}{k:St→Prop}{st:St}(h:get st.sl g= .bool true):Bt (⟨i,d,o,some (g,false),a⟩::r) k st=Bt r k (st.put d (.tup [])):=dy h (by decide)
theorem sR{i:Nat}{d:Option Nat}{o:AOp}{g:Nat}{w:Bool}{a:List Nat}{r:List AOper}{k:St→Prop}{st:St}(h:get st.sl g= .tup []):Bt (⟨i,d,o,some (g,w),a⟩::r) k st=Bt r k (st.put d (.tup [])):=by
 simp only[Bt,BP,h]
theorem wc(pu:Bool)(res:List ARes)(h0:Ac)(Q:V→Ac→Prop)(st:St):rk pu res h0 Q .ret st=(match D5 st res with
 |some v=>if pu then v.flat2=true∧st.hp.take h0.length=h0∧Q v h0 else Q v st.hp
 |none=>False):=rfl
theorem rY(pu:Bool)(res:List ARes)(h0:Ac)(Q:V→Ac→Prop)(st:St):rk pu res h0 Q .normal st=(match D5 st res with
 |some v=>if pu then v.flat2=true∧st.hp.take h0.length=h0∧Q v h0 else Q v st.hp
 |none=>False):=rfl
def Kd{α:Type}(_:α):Type:=Unit
def D6{α:Type}(a:α):Kd a:=()
def oV(o:Option V)(f:V→Prop)(_:Kd f):Prop:=match o with
 |some v=>f v
 |none=>False
theorem u6(v:V)(f:V→Prop)(t:Kd f):oV (some v) f t=f v:=rfl
theorem uA(f:V→Prop)(t:Kd f):oV none f t=False:=rfl
def oS(o:Option (V×List (List V)×Ac))(s:List V)(d:Option Nat)(k:St→Prop)(_:Kd k):Prop:=match o with
 |some (v,bx,hp)=>k (St.put ⟨s,bx,hp⟩ d v)
 |none=>False
theorem uk(v:V)(bx:List (List V))(hp:Ac)(s:List V)(d:Option Nat)(k:St→Prop)(t:Kd k):oS (some (v,bx,hp)) s d k t=k (St.put ⟨s,bx,hp⟩ d v):=rfl
@[congr] theorem ye {c:ACode} {k:BZ} {st st':St} (h:st=st'):BB c k st=BB c k st':=by rw[h]
@[congr] theorem yc {o:List AOper} {k:St→Prop} {st st':St} (h:st=st'):Bt o k st=Bt o k st':=by rw[h]
@[congr] theorem yf {o:AOp} {d:Option Nat} {k:St→Prop} {st st':St} (h:st=st'):As o d k st=As o d k st':=by rw[h]
@[congr] theorem yb {n:St→Prop} {k:BZ} {e e':AExit} {st st':St} (he:e=e') (h:st=st'):E1 n k e st=E1 n k e' st':=by rw[he,h]
@[congr] theorem x8 {i:Nat} {k:BZ} {e e':AExit} {st st':St} (he:e=e') (h:st=st'):G3 i k e st=G3 i k e' st':=by rw[he,h]
@[congr] theorem yg {pu:Bool} {res:List ARes} {h0:Ac} {Q:V→Ac→Prop} {e e':AExit} {st st':St} (he:e=e') (h:st=st'):rk pu res h0 Q e st=rk pu res h0 Q e' st':=by rw[he,h]
def fX(k:IntKind):V→Option V
 |.int _ n=>some (.int k (k.wrap n))
 |_=>none
def VD(off:Nat):V→Option V
 |.box i o=>some (.box i (o+off))
 |.ptr l o=>some (.ptr l (o+off))
 |_=>none
def eN(off:Nat)(n:Option Nat):V→Option V
 |.agg cs=>if off+n.getD 1≤cs.length then Cd n ((cs.drop off).take (n.getD 1)) else none
 |_=>none
def dC(w:Nat):V→V→Option V
 |.slice l o n,.int _ j=>if 0≤j∧j<n then some (.ptr l (o+j.toNat*w)) else none
 |_,_=>none
def TC:V→Option V
 |.nils=>some (.int .i64 0)
 |.slice _ _ n=>some (.int .i64 n)
 |_=>none
def OD(i:Nat):V→Option V
 |.tup vs=>vs[i]?
 |_=>none
def eD(bx:List (List V))(i:Nat)(n:Option Nat):V→Option V
 |.box j o=>if i=j∧o+n.getD 1≤(AD bx i).length then Cd n (((AD bx i).drop o).take (n.getD 1)) else none
 |_=>none
def Pa(hp:Ac)(n:Option Nat):V→Option V
 |.ptr l o=>(rd hp l o (n.getD 1)).bind fun cs=>Cd n cs
 |_=>none
def IV(bx:List (List V))(hp:Ac)(n:Nat)(a x:V):Option (V×List (List V)×Ac):=match a with
 |.ptr l o=>if x.cells.length=n∧x.cells.all V.cell then (wr hp l o x.cells).bind fun h=>some (.undef,bx,h) else none
 |_=>none
def W5(bx:List (List V))(hp:Ac)(i n:Nat)(x:V):Option (V×List (List V)×Ac):=
 if i<bx.length∧x.cells.length=n∧x.cells.all V.cell then some (.box i 0,Cy bx i x.cells,hp) else none
def gU(f:A3)(args:List V)(d:Option Nat)(k:St→Prop)(st:St)(_:Kd k):Prop:=f args st.hp fun r h=>k (St.put { st with hp:=h } d r)
theorem VN{o:Option V}{k:St→Prop}{st:St}{d:Option Nat} :
 (match o.bind (fun v=>(some (v,st.bx,st.hp):Option (V×List (List V)×Ac))) with
 |some (v,bx,hp)=>k (St.put { sl:=st.sl,bx,hp } d v)
 |none=>False)=oV o (fun v=>k (st.put d v)) (D6 _):=by
 cases o<;>rfl
theorem bZ{o:Option (V×List (List V)×Ac)}{s:List V}{k:St→Prop}{d:Option Nat} :
 (match o with
 |some (v,bx,hp)=>k (St.put { sl:=s,bx,hp } d v)
 |none=>False)=oS o s d k (D6 k):=by
 cases o<;>rfl
theorem v7{c:Prop}{_:Decidable c}{v:V}{k:St→Prop}{st:St}{d:Option Nat} :
 (match (if c then some (v,st.bx,st.hp) else (none:Option (V×List (List V)×Ac))) with
 |some (v,bx,hp)=>k (St.put { sl:=st.sl,bx,hp } d v)
 |none=>False)=oV (if c then some v else none) (fun v=>k (st.put d v)) (D6 _):=by
 by_cases h:c<;>simp only[h,AE,AU]<;>rfl
theorem fk {c:Prop}{_:Decidable c}{o:Option V}{k:St→Prop}{st:St}{d:Option Nat} :
 (match (if c then o.bind (fun v=>(some (v,st.bx,st.hp):Option (V×List (List V)×Ac))) else none) with
 |some (v,bx,hp)=>k (St.put { sl:=st.sl,bx,hp } d v)
 |none=>False)=oV (if c then o else none) (fun v=>k (st.put d v)) (D6 _):=by
 by_cases h:c<;>simp only[h,AE,AU]
 · cases o<;>rfl
 · rfl
theorem bind_some{α:Type}(o:Option α):(o.bind fun x=>some x)=o:=by cases o<;>rfl
section
variable {d:Option Nat} {k:St→Prop} {st:St}
theorem wA(x:Opnd):As (.mv x) d k st=k (st.put d (x.ev st.sl)):=rfl
theorem mY{c a b:Opnd}(h:c.ev st.sl= .bool true):As (.pick c a b) d k st=k (st.put d (a.ev st.sl)):=by simp only[As,Ae,h];rfl
theorem mC{c a b:Opnd}(h:c.ev st.sl= .bool false):As (.pick c a b) d k st=k (st.put d (b.ev st.sl)):=by simp only[As,Ae,h];rfl
theorem vH(op:BinOp)(x y:Opnd):As (.bin op x y) d k st=oV (B9 op (x.ev st.sl) (y.ev st.sl)) (fun v=>k (st.put d v)) (D6 _):=VN
theorem wi(op:UnOp)(x:Opnd):As (.un op x) d k st=oV (Hj op (x.ev st.sl)) (fun v=>k (st.put d v)) (D6 _):=VN
theorem sy(q:IntKind)(x:Opnd):As (.conv q x) d k st=oV (fX q (x.ev st.sl)) (fun v=>k (st.put d v)) (D6 _):=by simp only[As,Ae];cases x.ev st.sl<;>rfl
theorem pB(off:Nat)(x:Opnd):As (.fieldA off x) d k st=oV (VD off (x.ev st.sl)) (fun v=>k (st.put d v)) (D6 _):=by simp only[As,Ae];cases x.ev st.sl<;>rfl
theorem qJ(off:Nat)(n:Option Nat)(x:Opnd):As (.field off n x) d k st=oV (eN off n (x.ev st.sl)) (fun v=>k (st.put d v)) (D6 _):=by
 simp only[As,Ae]
 cases x.ev st.sl<;>try rfl
 exact fk
theorem pU(w:Nat)(x i:Opnd):As (.indexA w x i) d k st=oV (dC w (x.ev st.sl) (i.ev st.sl)) (fun v=>k (st.put d v)) (D6 _):=by
 simp only[As,Ae]
 cases x.ev st.sl<;>try rfl
 cases i.ev st.sl<;>try rfl
 exact v7
theorem vt(x:Opnd):As (.len x) d k st=oV (TC (x.ev st.sl)) (fun v=>k (st.put d v)) (D6 _):=by simp only[As,Ae];cases x.ev st.sl<;>rfl
theorem oT(x:Opnd)(i:Nat):As (.extract x i) d k st=oV (OD i (x.ev st.sl)) (fun v=>k (st.put d v)) (D6 _):=by
 simp only[As,Ae]
 cases x.ev st.sl<;>try rfl
 rename_i vs;simp only[OD];cases vs[i]?<;>rfl
theorem rI(i:Nat)(n:Option Nat)(a:Opnd):As (.loadB i n a) d k st=oV (eD st.bx i n (a.ev st.sl)) (fun v=>k (st.put d v)) (D6 _):=by
 simp only[As,Ae]
 cases a.ev st.sl<;>try rfl
 exact fk
theorem qg(n:Option Nat)(a:Opnd):As (.loadH n a) d k st=oV (Pa st.hp n (a.ev st.sl)) (fun v=>k (st.put d v)) (D6 _):=by
 simp only[As,Ae]
 cases a.ev st.sl<;>try rfl
 simp only[Pa];rename_i l o
 cases rd st.hp l o (n.getD 1)<;>try rfl
 exact VN
theorem p7(n:Nat)(a x:Opnd):As (.storeH n a x) d k st=oS (IV st.bx st.hp n (a.ev st.sl) (x.ev st.sl)) st.sl d k (D6 k):=by
 simp only[As,Ae,IV]
 cases a.ev st.sl<;>first|rfl|exact bZ
theorem sw(i n:Nat)(x:Opnd):As (.boxB i n x) d k st=oS (W5 st.bx st.hp i n (x.ev st.sl)) (clearBox i st.sl) d k (D6 k):=by
 simp only[As,Ae,W5];exact bZ
theorem tv(f:A3)(args:List Opnd):As (.call f args) d k st=((args.map (·.ev st.sl)).all V.ok1=true∧gU f (args.map (·.ev st.sl)) d k st (D6 k)):=rfl
end
section
variable {k:IntKind}
theorem qp(q:IntKind)(n:Int):fX q (.int k n)=some (.int q (q.wrap n)):=rfl
theorem nL(off i o:Nat):VD off (.box i o)=some (.box i (o+off)):=rfl
theorem nz(off l o:Nat):VD off (.ptr l o)=some (.ptr l (o+off)):=rfl
theorem oW(off:Nat)(n:Option Nat)(cs:List V):eN off n (.agg cs)=if off+n.getD 1≤cs.length then Cd n ((cs.drop off).take (n.getD 1)) else none:=rfl
theorem p6:TC .nils=some (.int .i64 0):=rfl
theorem th(l o n:Nat):TC (.slice l o n)=some (.int .i64 n):=rfl
theorem oJ(v:V)(vs:List V):OD 0 (.tup (v::vs))=some v:=rfl
theorem nV(i:Nat)(v:V)(vs:List V):OD (i+1) (.tup (v::vs))=OD i (.tup vs):=rfl
theorem qe(bx:List (List V))(i:Nat)(n:Option Nat)(j o:Nat):eD bx i n (.box j o)=if i=j∧o+n.getD 1≤(AD bx i).length then Cd n (((AD bx i).drop o).take (n.getD 1)) else none:=rfl
theorem rM(a b:Int):B9 .add (.int k a) (.int k b)=some (.int k (k.wrap (a+b))):=by simp[B9,Dj]
theorem rW(a b:Int):B9 .sub (.int k a) (.int k b)=some (.int k (k.wrap (a-b))):=by simp[B9,Dj]
theorem qn(a b:Int):B9 .mul (.int k a) (.int k b)=some (.int k (k.wrap (a*b))):=by simp[B9,Dj]
theorem qU(a b:Int):B9 .rem (.int k a) (.int k b)=if b=0 then none else some (.int k (a.tmod b)):=by simp[B9,Dj]
theorem qW(a b:Int):B9 .eql (.int k a) (.int k b)=some (.bool (a == b)):=by simp[B9,Dj]
theorem qu(a b:Int):B9 .neq (.int k a) (.int k b)=some (.bool (a != b)):=by simp[B9,Dj]
theorem r6(a b:Int):B9 .lss (.int k a) (.int k b)=some (.bool (decide (a<b))):=by simp[B9,Dj]
theorem r7(a b:Int):B9 .leq (.int k a) (.int k b)=some (.bool (decide (a≤b))):=by simp[B9,Dj]
theorem se(a b:Int):B9 .gtr (.int k a) (.int k b)=some (.bool (decide (a > b))):=by simp[B9,Dj]
theorem qK(a b:Int):B9 .geq (.int k a) (.int k b)=some (.bool (decide (a≥b))):=by simp[B9,Dj]
theorem sC(b:Bool):Hj .not (.bool b)=some (.bool (!b)):=rfl
theorem tN(n:Int):Hj .neg (.int k n)=some (.int k (k.wrap (0-n))):=rfl
theorem nA(d:Nat):Dt d none=some d:=rfl
theorem pE(d:Nat)(i:Int):Dt d (some (.int k i))=if 0≤i then some i.toNat else none:=rfl
theorem ph(n:Nat)(cs:List V):Cd (some n) cs=some (.agg cs):=rfl
theorem pA(v:V):Cd none [v]=some v:=rfl
end
theorem V.cell_undef:V.cell V.undef=false:=rfl
theorem V.cells_undef:V.cells V.undef=[V.undef]:=rfl
theorem V.ok1_undef:V.ok1 V.undef=false:=rfl
theorem V.flat_undef:V.flat V.undef=false:=rfl
theorem V.flat1_undef:V.flat1 V.undef=false:=rfl
theorem V.flat2_undef:V.flat2 V.undef=false:=rfl
theorem V.isBox_undef(i:Nat):V.isBox i V.undef=false:=rfl
theorem V.cell_bool(b:Bool):V.cell (V.bool b)=true:=rfl
theorem V.cells_bool(b:Bool):V.cells (V.bool b)=[(V.bool b)]:=rfl
theorem V.ok1_bool(b:Bool):V.ok1 (V.bool b)=true:=rfl
theorem V.flat_bool(b:Bool):V.flat (V.bool b)=true:=rfl
theorem V.flat1_bool(b:Bool):V.flat1 (V.bool b)=true:=rfl
theorem V.flat2_bool(b:Bool):V.flat2 (V.bool b)=true:=rfl
theorem V.isBox_bool(i:Nat)(b:Bool):V.isBox i (V.bool b)=false:=rfl
theorem V.cell_int(k:IntKind)(n:Int):V.cell (V.int k n)=true:=rfl
theorem V.cells_int(k:IntKind)(n:Int):V.cells (V.int k n)=[(V.int k n)]:=rfl
theorem V.ok1_int(k:IntKind)(n:Int):V.ok1 (V.int k n)=true:=rfl
theorem V.flat_int(k:IntKind)(n:Int):V.flat (V.int k n)=true:=rfl
theorem V.flat1_int(k:IntKind)(n:Int):V.flat1 (V.int k n)=true:=rfl
theorem V.flat2_int(k:IntKind)(n:Int):V.flat2 (V.int k n)=true:=rfl
theorem V.isBox_int(i:Nat)(k:IntKind)(n:Int):V.isBox i (V.int k n)=false:=rfl
theorem V.cell_str(s:List UInt8):V.cell (V.str s)=true:=rfl
theorem V.cells_str(s:List UInt8):V.cells (V.str s)=[(V.str s)]:=rfl
theorem V.ok1_str(s:List UInt8):V.ok1 (V.str s)=true:=rfl
theorem V.flat_str(s:List UInt8):V.flat (V.str s)=true:=rfl
theorem V.flat1_str(s:List UInt8):V.flat1 (V.str s)=true:=rfl
theorem V.flat2_str(s:List UInt8):V.flat2 (V.str s)=true:=rfl
theorem V.isBox_str(i:Nat)(s:List UInt8):V.isBox i (V.str s)=false:=rfl
theorem V.cell_nils:V.cell V.nils=true:=rfl
theorem V.cells_nils:V.cells V.nils=[V.nils]:=rfl
theorem V.ok1_nils:V.ok1 V.nils=true:=rfl
theorem V.flat_nils:V.flat V.nils=true:=rfl
theorem V.flat1_nils:V.flat1 V.nils=true:=rfl
theorem V.flat2_nils:V.flat2 V.nils=true:=rfl
theorem V.isBox_nils(i:Nat):V.isBox i V.nils=false:=rfl
theorem V.cell_slice(l o n:Nat):V.cell (V.slice l o n)=true:=rfl
theorem V.cells_slice(l o n:Nat):V.cells (V.slice l o n)=[(V.slice l o n)]:=rfl
theorem V.ok1_slice(l o n:Nat):V.ok1 (V.slice l o n)=true:=rfl
theorem V.flat_slice(l o n:Nat):V.flat (V.slice l o n)=false:=rfl
theorem V.flat1_slice(l o n:Nat):V.flat1 (V.slice l o n)=false:=rfl
theorem V.flat2_slice(l o n:Nat):V.flat2 (V.slice l o n)=false:=rfl
theorem V.isBox_slice(i:Nat)(l o n:Nat):V.isBox i (V.slice l o n)=false:=rfl
theorem V.cell_box(j o:Nat):V.cell (V.box j o)=false:=rfl
theorem V.cells_box(j o:Nat):V.cells (V.box j o)=[(V.box j o)]:=rfl
theorem V.ok1_box(j o:Nat):V.ok1 (V.box j o)=false:=rfl
theorem V.flat_box(j o:Nat):V.flat (V.box j o)=false:=rfl
theorem V.flat1_box(j o:Nat):V.flat1 (V.box j o)=false:=rfl
theorem V.flat2_box(j o:Nat):V.flat2 (V.box j o)=false:=rfl
theorem V.isBox_box(i:Nat)(j o:Nat):V.isBox i (V.box j o)=(i == j):=rfl
theorem V.cell_ptr(l o:Nat):V.cell (V.ptr l o)=true:=rfl
theorem V.cells_ptr(l o:Nat):V.cells (V.ptr l o)=[(V.ptr l o)]:=rfl
theorem V.ok1_ptr(l o:Nat):V.ok1 (V.ptr l o)=true:=rfl
theorem V.flat_ptr(l o:Nat):V.flat (V.ptr l o)=false:=rfl
theorem V.flat1_ptr(l o:Nat):V.flat1 (V.ptr l o)=false:=rfl
theorem V.flat2_ptr(l o:Nat):V.flat2 (V.ptr l o)=false:=rfl
theorem V.isBox_ptr(i:Nat)(l o:Nat):V.isBox i (V.ptr l o)=false:=rfl
theorem V.cell_ifc(b:Bool):V.cell (V.ifc b)=true:=rfl
theorem V.cells_ifc(b:Bool):V.cells (V.ifc b)=[(V.ifc b)]:=rfl
theorem V.ok1_ifc(b:Bool):V.ok1 (V.ifc b)=true:=rfl
theorem V.flat_ifc(b:Bool):V.flat (V.ifc b)=true:=rfl
theorem V.flat1_ifc(b:Bool):V.flat1 (V.ifc b)=true:=rfl
theorem V.flat2_ifc(b:Bool):V.flat2 (V.ifc b)=true:=rfl
theorem V.isBox_ifc(i:Nat)(b:Bool):V.isBox i (V.ifc b)=false:=rfl
theorem V.cell_agg(cs:List V):V.cell (V.agg cs)=false:=rfl
theorem V.cells_agg(cs:List V):V.cells (V.agg cs)=cs:=rfl
theorem V.ok1_agg(cs:List V):V.ok1 (V.agg cs)=cs.all V.cell:=rfl
theorem V.flat_agg(cs:List V):V.flat (V.agg cs)=false:=rfl
theorem V.flat1_agg(cs:List V):V.flat1 (V.agg cs)=cs.all V.flat:=rfl
theorem V.flat2_agg(cs:List V):V.flat2 (V.agg cs)=cs.all V.flat:=rfl
theorem V.isBox_agg(i:Nat)(cs:List V):V.isBox i (V.agg cs)=false:=rfl
theorem V.cell_tup(cs:List V):V.cell (V.tup cs)=false:=rfl
theorem V.cells_tup(cs:List V):V.cells (V.tup cs)=[(V.tup cs)]:=rfl
theorem V.ok1_tup(cs:List V):V.ok1 (V.tup cs)=false:=rfl
theorem V.flat_tup(cs:List V):V.flat (V.tup cs)=false:=rfl
theorem V.flat1_tup(cs:List V):V.flat1 (V.tup cs)=false:=rfl
theorem V.flat2_tup(cs:List V):V.flat2 (V.tup cs)=cs.all V.flat1:=rfl
theorem V.isBox_tup(i:Nat)(cs:List V):V.isBox i (V.tup cs)=false:=rfl
theorem gY{f:A3}{args:List V}{d:Option Nat}{k:St→Prop}{st:St}{t:Kd k}(p:f args st.hp fun r h=>k (St.put ⟨st.sl,st.bx,h⟩ d r)):gU f args d k st t:=p
theorem bn {body:ACode} {live:List Nat} {k:BZ} (I:Nat→St→Prop)
 (hs:∀ (m:Nat) (st:St) (next:St→Prop),I m st→(∀ (m':Nat) (st':St),m'<m→I m' { st' with sl:=keep live 0 st'.sl }→next st')→BB body (E1 next k) st) :
 ∀ (fuel m:Nat) (st:St),m<fuel→I m { st with sl:=keep live 0 st.sl }→LH (BB body) live k fuel st
 |0,m,st,h,_=>absurd h (Xp m)
 |fuel+1,m,st,h,hI=>hs m _ _ hI fun m' st' hm hI'=>bn I hs fuel m' st' (by omega) hI'
theorem vf {body:ACode} {live:List Nat} {k:BZ} {st:St} (I:Nat→St→Prop) (m:Nat) (h0:I m { st with sl:=keep live 0 st.sl })
 (hs:∀ (m:Nat) (st:St) (next:St→Prop),I m st→(∀ (m':Nat) (st':St),m'<m→I m' { st' with sl:=keep live 0 st'.sl }→next st')→BB body (E1 next k) st) :
 BB (.loop live body) k st:=⟨m+1,bn I hs (m+1) m st (Xt m) h0⟩
theorem dV {body:ACode} {live:List Nat} {k:BZ} {st:St} (n:Nat) (I:Nat→St→Prop) (h0:I 0 { st with sl:=keep live 0 st.sl })
 (hs:∀ (i:Nat) (st:St) (next:St→Prop),i≤n→I i st→(∀ st':St,i<n→I (i+1) { st' with sl:=keep live 0 st'.sl }→next st')→BB body (E1 next k) st) :
 BB (.loop live body) k st:=by
 refine vf (fun m st=>∃ i,i≤n∧m=n-i∧I i st) n ⟨0,Ge n,rfl,h0⟩ fun m st next hI hn=>?_
 obtain⟨i,hi,hm,hI⟩:=hI
 exact hs i st next hi hI fun st' hlt hI'=>hn (n-(i+1)) st' (by omega) ⟨i+1,by omega,rfl,hI'⟩
attribute [go_sem] BM tF pQ vJ rA uc vR nW s6 qt m8 px ox sV pM tw s4 u7 qR rB eq_self sR sE rS wA mY mC vH wi sy pB qJ pU vt oT sw rI qg p7 tv u6 uA uk qp nL nz oW p6 th oJ nV qe W5 rM rW qn qU qW qu r6 r7 se qK sC tN nA pE ph pA wc rY D5 FO D0 xU xY xj xa put AD Cy splice V.cell_undef V.cells_undef V.ok1_undef V.flat_undef V.flat1_undef V.flat2_undef V.isBox_undef V.cell_bool V.cells_bool V.ok1_bool V.flat_bool V.flat1_bool V.flat2_bool V.isBox_bool V.cell_int V.cells_int V.ok1_int V.flat_int V.flat1_int V.flat2_int V.isBox_int V.cell_str V.cells_str V.ok1_str V.flat_str V.flat1_str V.flat2_str V.isBox_str V.cell_nils V.cells_nils V.ok1_nils V.flat_nils V.flat1_nils V.flat2_nils V.isBox_nils V.cell_slice V.cells_slice V.ok1_slice V.flat_slice V.flat1_slice V.flat2_slice V.isBox_slice V.cell_box V.cells_box V.ok1_box V.flat_box V.flat1_box V.flat2_box V.isBox_box V.cell_ptr V.cells_ptr V.ok1_ptr V.flat_ptr V.flat1_ptr V.flat2_ptr V.isBox_ptr V.cell_ifc V.cells_ifc V.ok1_ifc V.flat_ifc V.flat1_ifc V.flat2_ifc V.isBox_ifc V.cell_agg V.cells_agg V.ok1_agg V.flat_agg V.flat1_agg V.flat2_agg V.isBox_agg V.cell_tup V.cells_tup V.ok1_tup V.flat_tup V.flat1_tup V.flat2_tup V.isBox_tup clearBox keep St.put AOp.clears FV FU BW Cj List.map ET Ta Jd G2 Bool.not_false JY Option.bind Wn Dh AE AU Gc not_false_eq_true KZ AF Bool.true_eq_false Ay AJ List.take List.drop MV HG DG I7 decide_true decide_false Int.lt_irrefl Int.le_refl beq_self_eq_true Bv Ej AH
section
variable {α:Type}
def Bu(f:α→Int→α×Int):List α→Int→List α×Int
 |[],m=>([],m)
 |a::r,m=>((f a m).1::(Bu f r (f a m).2).1,(Bu f r (f a m).2).2)
def BH(f:α→Int→α×Int)(l:List α)(m:Int)(i:Nat):List α×Int:=((Bu f (l.take i) m).1++l.drop i,(Bu f (l.take i) m).2)
theorem JJ(f:α→Int→α×Int):∀ (l:List α) (m:Int),(Bu f l m).1.length=l.length
 |[],_=>rfl
 |a::r,m=>by simp only[Bu,Ay,JJ f r]
theorem aB(f:α→Int→α×Int):∀ (l k:List α) (m:Int),Bu f (l++k) m=((Bu f l m).1++(Bu f k (Bu f l m).2).1,(Bu f k (Bu f l m).2).2)
 |[],k,m=>rfl
 |a::r,k,m=>by simp only[BW,Bu,aB f r k]
theorem U2(f:α→Int→α×Int)(l:List α)(m:Int):BH f l m 0=(l,m):=rfl
theorem Mr(f:α→Int→α×Int)(l:List α)(m:Int):BH f l m l.length=Bu f l m:=by simp[BH]
theorem Mv(f:α→Int→α×Int)(l:List α)(m:Int)(i:Nat):(BH f l m i).1.length=l.length:=by
 simp only[BH,Cz,JJ,HL,Pq];omega
theorem qq(f:α→Int→α×Int)(l:List α)(m:Int)(i:Nat)(d:α):(BH f l m i).1.getD i d=l.getD i d:=by
 simp only[BH,BT];rcases Bc i l.length with h|h
 · rw[CX (by rw[JJ,HL];omega),JJ,HL,I3];congr 2;omega
 · rw[Bm (by simp[JJ];omega),Bm h]
theorem OA(f:α→Int→α×Int)(l:List α)(m:Int){i:Nat}(hi:i<l.length)(d:α) :
 BH f l m (i+1)=((BH f l m i).1.set i (f (l.getD i d) (BH f l m i).2).1,(f (l.getD i d) (BH f l m i).2).2):=by
 have h1:l.take (i+1)=l.take i++[l.getD i d]:=by
  rw[SZ,BT,Ax hi];rfl
 simp only[BH,h1,aB,Bu]
 refine Prod.ext ?_ rfl
 have h2:(Bu f (l.take i) m).1.length=i:=by rw[JJ,HL];omega
 simp only
 rw[List.set_append_right _ _ (by omega),h2,Ps,JR hi,List.set_cons_zero,Bw]
 rfl
end
def xr:IntKind→Int→Int
 |.i64,m=>m
 |k,m=>k.wrap m
mutual
def CT.mkI:(t:CT)→t.D→Int→t.D×Int
 |.int k,_,m=>(xr k m,IntKind.i64.wrap (m+1))
 |.bool,_,m=>((m.tmod 3 == 0:Bool),IntKind.i64.wrap (m+1))
 |.str,s,m=>(s,m)
 |.ifc,b,m=>(b,m)
 |.sl r,l,m=>Bu (RT.mkI r) l m
 |.slf _,l,m=>(l,m)
def RT.mkI:(r:RT)→r.D→Int→r.D×Int
 |.one t,x,m=>CT.mkI t x m
 |.cons t r,x,m=>(((CT.mkI t x.1 m).1,(RT.mkI r x.2 (CT.mkI t x.1 m).2).1),(RT.mkI r x.2 (CT.mkI t x.1 m).2).2)
end
def CT.mkT:(t:CT)→t.D→Int→t.D×Int
 |.sl r,l,m=>Bu (RT.mkI r) l m
 |_,x,m=>(x,m)
def RT.mkT:(r:RT)→r.D→Int→r.D×Int
 |.one t,x,m=>CT.mkT t x m
 |.cons t r,x,m=>(((CT.mkT t x.1 m).1,(RT.mkT r x.2 (CT.mkT t x.1 m).2).1),(RT.mkT r x.2 (CT.mkT t x.1 m).2).2)
mutual
def CT.wl:(t:CT)→t.D→Prop
 |.sl r,l=>l.length≤9223372036854775807∧∀ a:r.D,List.Mem a l→RT.wl r a
 |_,_=>True
def RT.wl:(r:RT)→r.D→Prop
 |.one t,x=>CT.wl t x
 |.cons t r,x=>CT.wl t x.1∧RT.wl r x.2
end
section
variable {h h':Ac} {ω:Nat→W} {hd:Hd} {p:List Nat}
abbrev Je (ω:Nat→W) (hd:Hd) (p:List Nat):Nat→Prop:=fun l=>∃ q,ω l= .own hd (p++q)
abbrev MS (h:Ac) (ω:Nat→W) (hd:Hd) (p:List Nat) (r:RT) (l:List r.D) (u:V):Prop:=RC h ω (.inn hd p) (.sl .own (l.map r.enc)) u
theorem MS.len{r:RT}{l:List r.D}{u:V}(M:MS h ω hd p r l u):TC u=some (.int .i64 (l.length:Int)):=by
 unfold MS at M;generalize he:l.map r.enc=es at M
 have hl:l.length=es.length:=by rw[← he,A0]
 cases M with
 |nil=>rw[hl];rfl
 |sl _ _ _ l o n b h1 hk hc hne hn hw hle hr=>rw[hl,← hn];rfl
theorem MS.ok1{r:RT}{l:List r.D}{u:V}(M:MS h ω hd p r l u):u.ok1=true∧u.cell=true:=by
 unfold MS at M;generalize l.map r.enc=es at M;cases M<;>exact⟨rfl,rfl⟩
theorem MS.slice{r:RT}{l:List r.D}{u:V}(M:MS h ω hd p r l u)(hl:0<l.length):∃ b,u= .slice b 0 l.length:=by
 unfold MS at M;generalize he:l.map r.enc=es at M
 have hl':l.length=es.length:=by rw[← he,A0]
 cases M with
 |nil=>rw[hl'] at hl;simp at hl
 | sl _ _ _ b o n bk h1 hk hc hne hn hw hle hr=>
   obtain⟨_,rfl,_⟩:=hc;exact⟨b,by rw[hl',hn]⟩
theorem MS.upd {r:RT} {l:List r.D} {b n:Nat} (M:MS h ω hd p r l (.slice b 0 n)) {i off:Nat} (hi:i<l.length) (hoff:off<r.w) {y:r.D} {c:PV} (hy:r.enc y=Aq (r.enc (l.getD i r.dflt)) off [c])
 {bk:Blk} (h1:h[b]?=some bk) {cs':List V} (h1':h'[b]?=some { bk with cs:=cs' }) (hcl:cs'.length=bk.cs.length) {v:V} (hcs:∀ k,get cs' k=if k=i*r.w+off then v else get bk.cs k)
 (hO:∀ x,x≠b→(∀ q,ω x≠.own hd (p++(i*r.w+off)::q))→h'[x]?=h[x]?) (hc:RC h' ω (.inn hd (p++[i*r.w+off])) c v):MS h' ω hd p r (l.set i y) (.slice b 0 n):=by
 unfold MS at M ⊢
 rw[← OV,hy,← Gb r l i hi]
 generalize he:l.map r.enc=es at M
 have hl':l.length=es.length:=by rw[← he,A0]
 have hwr:∀ e∈es,e.length=r.w:=by rw[← he];intro e h;obtain⟨x,_,rfl⟩:=List.mem_map.1 h;exact I2 r x
 have hi':i<es.length:=by rw[← hl'];exact hi
 cases M with
 | sl _ _ _ _ o _ bk' h1b hk hch hne hn hw hle hr=>
   rw[h1] at h1b;cases h1b
   have hbw:bk.w=r.w:=by rw[← hw _ (DB (l:=es) hi')];exact hwr _ (DB hi')
   have hel:=K5 hw hi';obtain⟨hb1,_,hb3⟩:=hch
   refine RC.sl _ .own _ b 0 n { bk with cs:=cs' } h1' hk ⟨hb1,rfl,hb3⟩ (fun _ _ h=>by have:=congrArg List.length h;rw[Ef] at this;simp only[AJ] at this;omega) (by rw[Ef];exact hn) (Pv hw (by rw[FB];exact hel)) (by rw[Ef];simp only[hcl];exact hle) fun k hk'=>?_
   simp only[Ef] at hk';rw[RE hw hi' (by rw[hbw];simp only[Ay,AJ];omega) k hk',Bv,hcs];simp only[Ay,AJ,hbw];by_cases hkk:k=i*r.w+off
   · subst hkk;rw[Ab ⟨by omega,by omega⟩,Ab rfl,Ps];exact hc
   · rw[Ad (by omega),Ad hkk];have r0:=hr k hk';rw[Bv] at r0;refine r0.inn0 (f:=Ren.id) (T:=fun x=>x=b∨∃ q,ω x= .own hd (p++(i*r.w+off)::q)) ⟨fun x e=>⟨e,hO x (by rintro rfl;rw[hb1] at e;cases e) (fun q e'=>by rw[e] at e';cases e')⟩,fun x a q e hn=>⟨by rw[e];rfl,hO x (fun h=>hn (.inl h)) (fun q' e'=>hn (.inr ⟨q',e'⟩))⟩⟩ (fun x q e hT=>?_) (fun q=>rfl);rcases hT with rfl|⟨q',e'⟩
     · rw[hb1] at e;simp only[W.own.injEq] at e;have:=congrArg List.length e.2;simp at this
     · rw[e] at e';simp only[W.own.injEq,Bw,BW,Cj,List.append_cancel_left_eq,G6] at e';exact hkk e'.2.1
theorem MS.store {r:RT} {l:List r.D} {b n:Nat} (M:MS h ω hd p r l (.slice b 0 n)) {i off:Nat} (hi:i<l.length) (hoff:off<r.w) {v:V} (hv:v.flat=true) (hvc:v.cells=[v]) {y:r.D} (hy:r.enc y=Aq (r.enc (l.getD i r.dflt)) off [.fl v])
 (hinj:∀ l l' a q,ω l= .own a q→ω l'= .own a q→l=l') (bx:List (List V)):∃ h',IV bx h 1 (.ptr b (i*r.w+off)) v=some (.undef,bx,h')∧Only (Je ω hd p) h h'∧MS h' ω hd p r (l.set i y) (.slice b 0 n):=by
 have M0:=M
 unfold MS at M0
 generalize he:l.map r.enc=es at M0
 have hl':l.length=es.length:=by rw[← he,A0]
 have hwr:∀ e∈es,e.length=r.w:=by rw[← he];intro e h;obtain⟨x,_,rfl⟩:=List.mem_map.1 h;exact I2 r x
 have hi':i<es.length:=by rw[← hl'];exact hi
 cases M0 with
 | sl _ _ _ _ o _ bk h1 hk hch hne hn hw hle hr=>
   have hbw:bk.w=r.w:=by rw[← hw _ (DB (l:=es) hi')];exact hwr _ (DB hi')
   obtain⟨hb1,_,hb3⟩:=hch
   have hlt:i*r.w+off<bk.cs.length:=by
    have:(i+1)*r.w≤es.length*r.w:=FK _ hi';rw[CY,HJ] at this;rw[hbw] at hle;omega
   have hb:b<h.length:=B5 h1
   have hset:∀ k,(h.set b { bk with cs:=splice bk.cs (i*r.w+off) [v] })[k]?=if k=b then some { bk with cs:=splice bk.cs (i*r.w+off) [v] } else h[k]?:=by
    intro k;rw[Gh];by_cases hk:b=k
    · subst hk;simp[hb]
    · rw[Ad hk,Ad (fun h'=>hk h'.symm)]
   have hvcell:[v].all V.cell=true:=by
    cases v<;>first|rfl|(simp[V.flat] at hv)
   refine⟨h.set b { bk with cs:=splice bk.cs (i*r.w+off) [v] },?_,⟨by simp,fun x hx=>?_,fun x bx' hx=>?_⟩,M.upd hi hoff hy h1 (cs':=splice bk.cs (i*r.w+off) [v]) (v:=v) (by rw[hset,Ab rfl]) (E7 _ _ _) (fun k=>?_) (fun x hx _=>by rw[hset,Ad hx]) (.v _ _ hv)⟩
   · have hwr':wr h b (i*r.w+off) [v]=some (h.set b { bk with cs:=splice bk.cs (i*r.w+off) [v] }):=by
      rw[wr,h1];simp only;rw[Ab ⟨hb3,by simp only[Ay,AJ];omega⟩]
     simp only[IV,hvc,hvcell,Ay,AJ,hwr'];rfl
   · rw[hset,Ad];rintro rfl;exact hx ⟨[],by rw[hb1];simp⟩
   · by_cases hxb:x=b
     · subst hxb;rw[h1] at hx;cases hx;exact⟨{ bk with cs:=splice bk.cs (i*r.w+off) [v] },by rw[hset,Ab rfl],rfl,rfl,E7 _ _ _⟩
     · exact⟨bx',by rw[hset,Ad hxb];exact hx,rfl,rfl,rfl⟩
   · rw[Ol _ _ _ _ (by simp only[Ay,AJ];omega)];simp only[Ay,AJ];by_cases hkk:k=i*r.w+off
     · subst hkk;rw[Ab ⟨by omega,by omega⟩,Ab rfl,Ps];rfl
     · rw[Ad (by omega),Ad hkk]
theorem MS.load{r:RT}{l:List r.D}{b n:Nat}(M:MS h ω hd p r l (.slice b 0 n)){i off:Nat}(hi:i<l.length)(hoff:off<r.w){r':RT}{l':List r'.D}(hx:Aa (r.enc (l.getD i r.dflt)) off= .sl .own (l'.map r'.enc)) :
 ∃ u,Pa h none (.ptr b (i*r.w+off))=some u∧MS h ω hd (p++[i*r.w+off]) r' l' u∧∃ bk,h[b]?=some bk∧get bk.cs (i*r.w+off)=u:=by
 have M0:=M
 unfold MS at M0
 rw[← Gb r l i hi] at hx
 generalize he:l.map r.enc=es at M0 hx
 have hl':l.length=es.length:=by rw[← he,A0]
 have hwr:∀ e∈es,e.length=r.w:=by rw[← he];intro e h;obtain⟨x,_,rfl⟩:=List.mem_map.1 h;exact I2 r x
 have hi':i<es.length:=by rw[← hl'];exact hi
 cases M0 with
 | sl _ _ _ _ o _ bk h1 hk hch hne hn hw hle hr=>
   have hbw:bk.w=r.w:=by rw[← hw _ (DB (l:=es) hi')];exact hwr _ (DB hi')
   have hm:(i+1)*r.w≤es.length*r.w:=FK _ hi';rw[CY,HJ] at hm
   have hlt:i*r.w+off<bk.cs.length:=by rw[hbw] at hle;omega
   have r0:=hr (i*r.w+off) (by rw[hbw];omega);rw[Bv] at r0;have hf:Aa es.flatten (i*r.w+off)=Aa (AN es i) off:=GX (w:=r.w) (by rw[← hbw];exact hw) i off hoff;rw[hf,hx] at r0;refine⟨get bk.cs (i*r.w+off),?_,r0,bk,h1,rfl⟩
   have e1:rd h b (i*r.w+off) 1=some ((bk.cs.drop (i*r.w+off)).take 1):=by
    rw[rd,h1];simp only;rw[Ab ⟨hk,by omega⟩]
   show (rd h b (i*r.w+off) 1).bind (Cd none)=_;rw[e1];rw[JR hlt];simp only[Xx,List.take_zero,ER,Cd,CJ,Ax hlt];rfl
theorem MS.sub {r:RT} {l:List r.D} {b n:Nat} (M:MS h ω hd p r l (.slice b 0 n)) {i off:Nat} (hi:i<l.length) (hoff:off<r.w) {u:V} {bk:Blk} (h1:h[b]?=some bk) (hu:get bk.cs (i*r.w+off)=u)
 (hO:Only (Je ω hd (p++[i*r.w+off])) h h') {r':RT} {l':List r'.D} (hr:MS h' ω hd (p++[i*r.w+off]) r' l' u) {y:r.D} (hy:r.enc y=Aq (r.enc (l.getD i r.dflt)) off [.sl .own (l'.map r'.enc)]) :
 Only (Je ω hd p) h h'∧MS h' ω hd p r (l.set i y) (.slice b 0 n):=by
 have hb1:ω b= .own hd p:=by
  have M0:=M;unfold MS at M0;generalize l.map r.enc=es at M0
  cases M0 with
  |sl _ _ _ _ o _ bk h1 hk hch hne hn hw hle hr=>exact hch.1
 refine⟨hO.mono fun x ⟨q,e⟩=>⟨(i*r.w+off)::q,by rw[e];simp⟩,M.upd hi hoff hy h1 (cs':=bk.cs) (v:=u) ?_ rfl (fun k=>?_) (fun x _ hx=>hO.off x (fun⟨q,e⟩=>hx q (by rw[e];simp))) hr⟩
 · rw[hO.off b]
   · exact h1
   · rintro⟨q,e⟩;rw[hb1] at e;simp only[W.own.injEq] at e;have:=congrArg List.length e.2;simp at this
 · split
   · rename_i hk;rw[hk,hu]
   · rfl
theorem MS.frame{r:RT}{l:List r.D}{u:V}(M:MS h ω hd p r l u){i:Nat}(hi:i<l.length):MS h ω hd p r (l.set i (l.getD i r.dflt)) u:=by
 have:l.set i (l.getD i r.dflt)=l:=by
  rw[BT,Ax hi];simp
 rw[this];exact M
theorem UW{r:RT}{l:List r.D}{i:Nat}(hi:i<l.length)(x:r.D):(l.set i x).getD i r.dflt=x:=by
 rw[BT,List.getElem?_set_self (by simpa using hi)];rfl
theorem MS.st {r:RT} {l:List r.D} {b n i:Nat} {x:r.D} (M:MS h ω hd p r (l.set i x) (.slice b 0 n)) (hi:i<l.length) {off:Nat} (hoff:off<r.w) {v:V} (hv:v.flat=true) (hvc:v.cells=[v]) {y:r.D} (hy:r.enc y=Aq (r.enc x) off [.fl v])
 (hinj:∀ l l' a q,ω l= .own a q→ω l'= .own a q→l=l') (bx:List (List V)):∃ h',IV bx h 1 (.ptr b (i*r.w+off)) v=some (.undef,bx,h')∧Only (Je ω hd p) h h'∧MS h' ω hd p r (l.set i y) (.slice b 0 n):=by
 obtain⟨h',e1,e2,e3⟩:=M.store (i:=i) (off:=off) (by simpa using hi) hoff hv hvc (y:=y) (by rw[UW hi];exact hy) hinj bx
 rw[List.set_set] at e3
 exact⟨h',e1,e2,e3⟩
theorem MS.sb{r:RT}{l:List r.D}{b n i:Nat}{x:r.D}(M:MS h ω hd p r (l.set i x) (.slice b 0 n))(hi:i<l.length){off:Nat}(hoff:off<r.w){r':RT}{l':List r'.D}(hx:Aa (r.enc x) off= .sl .own (l'.map r'.enc)) :
 ∃ u,Pa h none (.ptr b (i*r.w+off))=some u∧MS h ω hd (p++[i*r.w+off]) r' l' u ∧
   ∀ (h':Ac) (l'':List r'.D) (y:r.D),Only (Je ω hd (p++[i*r.w+off])) h h'→MS h' ω hd (p++[i*r.w+off]) r' l'' u→r.enc y=Aq (r.enc x) off [.sl .own (l''.map r'.enc)]→Only (Je ω hd p) h h'∧MS h' ω hd p r (l.set i y) (.slice b 0 n):=by
 obtain⟨u,e1,e2,bk,e3,e4⟩:=M.load (i:=i) (off:=off) (by simpa using hi) hoff (r':=r') (l':=l') (by rw[UW hi];exact hx)
 refine⟨u,e1,e2,fun h' l'' y hO hM hy=>?_⟩
 obtain⟨k1,k2⟩:=M.sub (i:=i) (off:=off) (by simpa using hi) hoff e3 e4 hO hM (y:=y) (by rw[UW hi];exact hy)
 rw[List.set_set] at k2
 exact⟨k1,k2⟩
theorem fV{r:RT}{l:List r.D}(hw:CT.wl (.sl r) l){i:Nat}(hi:i<l.length):RT.wl r (l.getD i r.dflt):=by
 rw[BT,Ax hi];exact hw.2 _ (DB hi)
theorem RC.beside{m:Nat}{P:List Nat}{v:PV}{u:V}{S:Nat→Prop}(r:RC h ω (.inn hd (P++[m])) v u)(hO:Only S h h')(hS:∀ l,S l→∃ c q,c≠m∧ω l= .own hd (P++c::q)):RC h' ω (.inn hd (P++[m])) v u:=by
 refine r.inn0 (f:=Ren.id) (T:=S) ⟨fun l e=>⟨e,hO.off l fun hs=>?_⟩,fun l a q e hn=>⟨by rw[e];rfl,hO.off l hn⟩⟩ (fun l q e hs=>?_) (fun q=>rfl)
 · obtain⟨c,q,_,e'⟩:=hS l hs;rw[e] at e';cases e'
 · obtain⟨c,q',hc,e'⟩:=hS l hs;rw[e] at e';simp only[W.own.injEq,Bw,BW,Cj,List.append_cancel_left_eq,G6] at e';exact hc e'.2.1.symm
theorem RC.cellV{H:Ac}{m:Md}{v:PV}{u:V}(r:RC H ω m v u)(h:v.argc=true):u.cell=true:=W1 r h
theorem RC.own1{H:Ac}{m:Md}{es:List (List PV)}{u:V}(r:RC H ω m (.sl .own es) u):u.ok1=true∧u.cell=true∧u.cells=[u]:=by cases r<;>exact⟨rfl,rfl,rfl⟩
theorem RC.flat1{H:Ac}{m:Md}{x u:V}(r:RC H ω m (.fl x) u)(hx:x≠.undef):u=x:=by
 cases r with
 |undef=>exact absurd rfl hx
 |v=>rfl
theorem XN{x:Int}(h:-9223372036854775808≤x∧x≤9223372036854775807):IntKind.i64.wrap x=x:=by
 rw[IntKind.wrap_i64];omega
theorem WX{r:RT}{x:r.D}{j:Nat}(h:j<r.w):j<(r.enc x).length:=by rw[I2];exact h
theorem dX{b n w:Nat}{i:Nat}(hi:i<n){k:IntKind}:dC w (.slice b 0 n) (.int k (i:Int))=some (.ptr b (i*w)):=by
 show (if 0≤(i:Int)∧(i:Int)<n then some (V.ptr b (0+(i:Int).toNat*w)) else none)=_;rw[Ab (by omega),Bg,Bv]
theorem aX{r:RT}{l:List r.D}{m:Int}{i:Nat}(hi:i<l.length){L:List r.D}{k:Int}(e:BH r.mkI l m i=(L,k)):L.length=l.length∧BH r.mkI l m (i+1)=(L.set i (r.mkI (L.getD i r.dflt) k).1,(r.mkI (L.getD i r.dflt) k).2)∧L.getD i r.dflt=l.getD i r.dflt:=by
 have h1:=Mv r.mkI l m i;have h2:=qq r.mkI l m i r.dflt;rw[e] at h1 h2;exact⟨h1,by rw[OA r.mkI l m hi r.dflt,e,← h2],h2⟩
end
theorem xd{us:List V}(h:us.length=2):∃ u0 u1,us=[u0,u1]:=by
 match us,h with
 |[u0,u1],_=>exact⟨u0,u1,rfl⟩
def SlC(s:A3)(r:RT):Prop:=∀ (h:Ac) (ω:Nat→W) (hd:Hd) (p:List Nat) (l:List r.D) (u:V) (m:Int) (Q:V→Ac→Prop),CT.wl (.sl r) l→(∀ l l' a q,ω l= .own a q→ω l'= .own a q→l=l')→MS h ω hd p r l u →
 (∀ h',Only (Je ω hd p) h h'→MS h' ω hd p r (Bu r.mkI l m).1 u→Q (.int .i64 (Bu r.mkI l m).2) h')→s [u,.int .i64 m] h Q
def xX(r:RT):DMk:=⟨.one (.sl r),false,fun l=>CT.wl (.sl r) l,fun l m=>Bu r.mkI l m,false⟩
def iz(r:RT):DMk:=⟨r,true,fun x=>RT.wl r x,fun x m=>r.mkT x m,false⟩
theorem uV(r:RT)(m:Int):(iz r).P.rv m= .int .i64 m:=rfl
attribute [go_sem] uV
theorem SlC.sound{s:A3}{r:RT}(hs:SlC s r):Pw s (xX r).P:=by
 rintro h ω hd P b Aw us u m K Q hinj hu hl hr ⟨x,rfl,hok,hK⟩ hQ;have hu:us=[u]:=hu;subst hu;have h0:=hr 0 (by show 0<1;omega)
 refine hs h ω hd (P++[b]) x u m Q hok hinj h0 fun h' hO hM=>?_
 refine hQ _ _ h' hK rfl (hO.mono fun l ⟨q,e⟩=>⟨0,_,q,by show 0<1;omega,rfl,by rw[e];simp⟩) fun c hc=>?_
 have:c=0:=by have:c<1:=hc;omega
 subst this;exact hM
structure Fn where
 d:DFun
 h:List HT
 q:QT
@[irreducible] def Fn.S(F:Fn):A3:=JS F.d.er.er
@[irreducible] def Fn.P(F:Fn):Cf:=MP F.d.er
@[irreducible] def Fn.V(F:Fn)(x:TuX F.h):F.q.D:=(shut fun x=>LJ F.d F.h F.q x).1 x
@[irreducible] def Fn.O(F:Fn)(x:TuX F.h):Prop:=(shut fun x=>LB F.d F.h F.q x).1 x
def Fn.D(F:Fn):Fm:=HH F.h F.q F.O F.V
theorem Fn.v(F:Fn)(x:TuX F.h):F.V x=LJ F.d F.h F.q x:=by unfold Fn.V;exact congrFun (shut _).2 x
theorem Fn.o(F:Fn)(x:TuX F.h):F.O x=LB F.d F.h F.q x:=by unfold Fn.O;exact congrFun (shut _).2 x
def Fn.A(F:Fn):Prop:=Gi F.S F.P
def Fn.B(F:Fn):Prop:=HN F.P F.D
theorem Be{F:Fn}(o:AllP F.d.er.body.obs):F.A:=by unfold Fn.A Fn.S Fn.P;exact pk o
theorem Bj{F:Fn}(o:AllD F.d.body.obs)(st:Ns F.d F.h F.q=true)(c:∀ x,Nj F.d F.h F.q x=true):F.B:=by
 unfold Fn.B Fn.P;exact q6 o st c (fun x h=>Eq.mp (F.o x) h) (fun x=>(F.v x).symm)
@[reducible] def oF (i d:Nat) (F:Fn) (args:List Opnd):DOper:=⟨i,some d,.call false F.S F.P F.D args,none,[]⟩
@[reducible] def xF (i d:Nat) (F:Fn) (args:List Opnd) (a:List Nat):DOper:=⟨i,some d,.call false F.S F.P F.D args,none,a⟩
theorem lF{P:Program}(hm:P.follows .mixedOrders=true){F:Fn}{f:FuncId}{fn:Func}{obs:List (FuncId×A3)}(hf:P.funcs[f]?=some fn)(hk:Lu P fn F.d.er.er=true)(ho:Lv P fn F.d.er.er=obs)(hob:AllSound P obs):Av P f F.S:=by
 unfold Fn.S;exact Rg hm hf hk ho hob
section
set_option maxRecDepth 8000
def nE:DCode:=(.seq [2,1,0] (.region [oa 0 6 (.mv (.c (.bool false)))]) (.seq [6] (.region [om 0 7 0,om 1 8 1,oa 2 9 (.bin .geq (.t 7) (.t 8)),om 3 10 9,og 4 11 (.mv (.t 0)) 10 true,og 5 12 (.mv (.t 2)) 10 true,og 6 13 (.bin .leq (.t 11) (.t 12)) 10 true,oa 7 14 (.pick (.t 10) (.t 13) (.c (.bool false))),om 8 6 14]) .ret))
def Cn:Fn:=⟨⟨3,15,0,true,[.tmp 6],nE⟩,[.one .frz (.int .i64),.one .frz (.int .i64),.one .frz (.int .i64)],.one (.one .own (.bool))⟩
theorem Jx:Cn.A:=Be trivial
def Co:Int×Int×Int→Bool:=Cn.V
def F6:Int×Int×Int→Prop:=Cn.O
theorem Jw:Cn.B:=Bj trivial (by kernel_rfl) (fun x=>by kernel_rfl)
def lJ:DCode:=(.seq [1] (.region [oa 0 1 (.boxB 0 4 (.t 0)),oa 1 2 (.mv (.c (.bool false)))]) (.seq [3,1] (.region [oa 0 6 (.fieldA 1 (.t 1)),oa 1 7 (.loadB 0 none (.t 6)),oF 2 8 Cn [(.t 7),(.c (.int .i64 1)),(.c (.int .i64 56))],om 3 3 8]) (.seq [4,3,1] (.region [oa 0 9 (.fieldA 2 (.t 1)),oa 1 10 (.loadB 0 none (.t 9)),oF 2 11 Cn [(.t 10),(.c (.int .i64 1)),(.c (.int .i64 15))],om 3 4 11]) (.seq [5,4,3,1] (.region [oa 0 12 (.fieldA 3 (.t 1)),oa 1 13 (.loadB 0 none (.t 12)),oF 2 14 Cn [(.t 13),(.c (.int .i64 1)),(.c (.int .i64 3))],om 3 5 14]) (.seq [] (.seq [16,5,4,3,1] (.region [oa 0 15 (.fieldA 0 (.t 1)),oa 1 16 (.loadB 0 none (.t 15))]) (.block 0 (.seq [17,16,5,4,3,1] (.seq [17,16,5,4,3,1] (.region [oa 0 18 (.bin .eql (.t 16) (.c (.int .i64 0))),om 1 17 18]) (.cond (.t 17) .skip (.seq [17,16,5,4,3,1] (.region [oa 0 19 (.bin .eql (.t 16) (.c (.int .i64 1))),om 1 17 19]) (.cond (.t 17) .skip (.region [oa 0 20 (.bin .eql (.t 16) (.c (.int .i64 10))),om 1 17 20]))))) (.cond (.t 17) (.seq [2] (.region [oa 0 21 (.fieldA 1 (.t 1)),oa 1 22 (.loadB 0 none (.t 21)),oa 2 23 (.bin .eql (.t 22) (.c (.int .i64 0))),om 3 24 23,og 4 25 (.fieldA 2 (.t 1)) 24 true,og 5 26 (.loadB 0 none (.t 25)) 24 true,og 6 27 (.bin .eql (.t 26) (.c (.int .i64 0))) 24 true,oa 7 28 (.pick (.t 24) (.t 27) (.c (.bool false))),om 8 29 28,og 9 30 (.fieldA 3 (.t 1)) 29 true,og 10 31 (.loadB 0 none (.t 30)) 29 true,og 11 32 (.bin .eql (.t 31) (.c (.int .i64 0))) 29 true,oa 12 33 (.pick (.t 29) (.t 32) (.c (.bool false))),om 13 2 33]) .ret) (.seq [34,16,5,4,3,1] (.region [oa 0 35 (.bin .eql (.t 16) (.c (.int .i64 2))),om 1 34 35]) (.cond (.t 34) (.seq [2] (.region [oa 0 36 (.fieldA 3 (.t 1)),oa 1 37 (.loadB 0 none (.t 36)),oa 2 38 (.bin .eql (.t 37) (.c (.int .i64 0))),om 3 39 38,og 4 40 (.mv (.t 3)) 39 true,og 5 41 (.mv (.t 40)) 39 true,og 6 42 (.fieldA 1 (.t 1)) 41 false,og 7 43 (.loadB 0 none (.t 42)) 41 false,og 8 44 (.bin .eql (.t 43) (.c (.int .i64 0))) 41 false,og 9 45 (.mv (.t 44)) 41 false,og 10 46 (.mv (.t 4)) 45 true,og 11 47 (.pick (.t 45) (.t 46) (.c (.bool false))) 41 false,og 12 48 (.pick (.t 41) (.c (.bool true)) (.t 47)) 39 true,oa 13 49 (.pick (.t 39) (.t 48) (.c (.bool false))),om 14 50 49,og 15 51 (.mv (.t 4)) 50 true,og 16 52 (.mv (.t 51)) 50 true,og 17 53 (.fieldA 2 (.t 1)) 52 false,og 18 54 (.loadB 0 none (.t 53)) 52 false,og 19 55 (.bin .eql (.t 54) (.c (.int .i64 0))) 52 false,og 20 56 (.pick (.t 52) (.c (.bool true)) (.t 55)) 50 true,oa 21 57 (.pick (.t 50) (.t 56) (.c (.bool false))),om 22 2 57]) .ret) (.seq [58,16,5,4,3,1] (.seq [58,16,5,4,3,1] (.region [oa 0 59 (.bin .eql (.t 16) (.c (.int .i64 3))),om 1 58 59]) (.cond (.t 58) .skip (.region [oa 0 60 (.bin .eql (.t 16) (.c (.int .i64 4))),om 1 58 60]))) (.cond (.t 58) (.seq [2] (.region [om 0 61 5,om 1 62 61,og 2 63 (.fieldA 1 (.t 1)) 62 true,og 3 64 (.loadB 0 none (.t 63)) 62 true,og 4 65 (.bin .eql (.t 64) (.c (.int .i64 0))) 62 true,oa 5 66 (.pick (.t 62) (.t 65) (.c (.bool false))),om 6 67 66,og 7 68 (.fieldA 2 (.t 1)) 67 true,og 8 69 (.loadB 0 none (.t 68)) 67 true,og 9 70 (.bin .eql (.t 69) (.c (.int .i64 0))) 67 true,oa 10 71 (.pick (.t 67) (.t 70) (.c (.bool false))),om 11 2 71]) .ret) (.seq [72,16,5,4,3,1] (.seq [72,16,5,4,3,1] (.region [oa 0 73 (.bin .eql (.t 16) (.c (.int .i64 5))),om 1 72 73]) (.cond (.t 72) .skip (.region [oa 0 74 (.bin .eql (.t 16) (.c (.int .i64 9))),om 1 72 74]))) (.cond (.t 72) (.seq [2] (.region [oa 0 75 (.fieldA 3 (.t 1)),oa 1 76 (.loadB 0 none (.t 75)),oF 2 77 Cn [(.t 76),(.c (.int .i64 0)),(.c (.int .i64 3))],om 3 78 77,og 4 79 (.fieldA 1 (.t 1)) 78 true,og 5 80 (.loadB 0 none (.t 79)) 78 true,og 6 81 (.bin .eql (.t 80) (.c (.int .i64 0))) 78 true,oa 7 82 (.pick (.t 78) (.t 81) (.c (.bool false))),om 8 83 82,og 9 84 (.fieldA 2 (.t 1)) 83 true,og 10 85 (.loadB 0 none (.t 84)) 83 true,og 11 86 (.bin .eql (.t 85) (.c (.int .i64 0))) 83 true,oa 12 87 (.pick (.t 83) (.t 86) (.c (.bool false))),om 13 2 87]) .ret) (.seq [88,16,5,4,3,1] (.region [oa 0 89 (.bin .eql (.t 16) (.c (.int .i64 6))),om 1 88 89]) (.cond (.t 88) (.seq [2] (.region [om 0 90 3,om 1 91 90,og 2 92 (.mv (.t 4)) 91 true,oa 3 93 (.pick (.t 91) (.t 92) (.c (.bool false))),om 4 94 93,og 5 95 (.fieldA 3 (.t 1)) 94 true,og 6 96 (.loadB 0 none (.t 95)) 94 true,og 7 97 (.bin .eql (.t 96) (.c (.int .i64 0))) 94 true,oa 8 98 (.pick (.t 94) (.t 97) (.c (.bool false))),om 9 2 98]) .ret) (.seq [99,16,5,4,3,1] (.region [oa 0 100 (.bin .eql (.t 16) (.c (.int .i64 7))),om 1 99 100]) (.cond (.t 99) (.seq [2] (.region [om 0 101 3,om 1 102 101,og 2 103 (.mv (.t 5)) 102 true,oa 3 104 (.pick (.t 102) (.t 103) (.c (.bool false))),om 4 105 104,og 5 106 (.fieldA 2 (.t 1)) 105 true,og 6 107 (.loadB 0 none (.t 106)) 105 true,og 7 108 (.bin .eql (.t 107) (.c (.int .i64 0))) 105 true,oa 8 109 (.pick (.t 105) (.t 108) (.c (.bool false))),om 9 2 109]) .ret) (.seq [110,4,1] (.region [oa 0 111 (.bin .eql (.t 16) (.c (.int .i64 8))),om 1 110 111]) (.cond (.t 110) (.seq [2] (.region [om 0 112 4,om 1 113 112,og 2 114 (.fieldA 1 (.t 1)) 113 true,og 3 115 (.loadB 0 none (.t 114)) 113 true,og 4 116 (.bin .eql (.t 115) (.c (.int .i64 0))) 113 true,oa 5 117 (.pick (.t 113) (.t 116) (.c (.bool false))),om 6 118 117,og 7 119 (.fieldA 3 (.t 1)) 118 true,og 8 120 (.loadB 0 none (.t 119)) 118 true,og 9 121 (.bin .eql (.t 120) (.c (.int .i64 0))) 118 true,oa 10 122 (.pick (.t 118) (.t 121) (.c (.bool false))),om 11 2 122]) .ret) .skip)))))))))))))))) (.seq [2] (.region [oa 0 2 (.mv (.c (.bool false)))]) .ret))))))
def GF:Fn:=⟨⟨1,123,1,true,[.tmp 2],lJ⟩,[.agg [(.frz,.int .i64),(.frz,.int .i64),(.frz,.int .i64),(.frz,.int .i64)]],.one (.one .own (.bool))⟩
theorem YR:GF.A:=Be ⟨Jx,Jx,Jx,Jx,trivial⟩
def Cc:Int×Int×Int×Int→Bool:=GF.V
def L3:Int×Int×Int×Int→Prop:=GF.O
theorem YT:GF.B:=Bj ⟨Jw,Jw,Jw,Jw,trivial⟩ (by kernel_rfl) (fun x=>by kernel_rfl)
def mA:DCode:=(.seq [0] (.region [oa 0 2 (.mv (.c (.bool false)))]) (.seq [2] (.region [om 0 3 0,oa 1 4 (.bin .geq (.t 3) (.c (.int .i64 1))),om 2 5 4,og 3 6 (.mv (.t 0)) 5 true,og 4 7 (.bin .leq (.t 6) (.c (.int .i64 56))) 5 true,oa 5 8 (.pick (.t 5) (.t 7) (.c (.bool false))),om 6 2 8]) .ret))
def EG:Fn:=⟨⟨1,9,0,true,[.tmp 2],mA⟩,[.one .frz (.int .i64)],.one (.one .own (.bool))⟩
theorem Ut:EG.A:=Be trivial
def GP:Int→Bool:=EG.V
def Mc:Int→Prop:=EG.O
theorem Uv:EG.B:=Bj trivial (by kernel_rfl) (fun x=>by kernel_rfl)
def mx:DCode:=(.seq [0] (.region [oa 0 2 (.mv (.c (.bool false)))]) (.seq [2] (.region [om 0 3 0,oa 1 4 (.bin .geq (.t 3) (.c (.int .i64 1))),om 2 5 4,og 3 6 (.mv (.t 0)) 5 true,og 4 7 (.bin .leq (.t 6) (.c (.int .i64 15))) 5 true,oa 5 8 (.pick (.t 5) (.t 7) (.c (.bool false))),om 6 2 8]) .ret))
def Dq:Fn:=⟨⟨1,9,0,true,[.tmp 2],mx⟩,[.one .frz (.int .i64)],.one (.one .own (.bool))⟩
theorem Uw:Dq.A:=Be trivial
def Mf:Int→Bool:=Dq.V
def KH:Int→Prop:=Dq.O
theorem Uu:Dq.B:=Bj trivial (by kernel_rfl) (fun x=>by kernel_rfl)
def mj:DCode:=(.seq [0] (.region [oa 0 2 (.mv (.c (.bool false)))]) (.seq [2] (.region [om 0 3 0,oa 1 4 (.bin .geq (.t 3) (.c (.int .i64 1))),om 2 5 4,og 3 6 (.mv (.t 0)) 5 true,og 4 7 (.bin .leq (.t 6) (.c (.int .i64 3))) 5 true,oa 5 8 (.pick (.t 5) (.t 7) (.c (.bool false))),om 6 2 8]) .ret))
def EF:Fn:=⟨⟨1,9,0,true,[.tmp 2],mj⟩,[.one .frz (.int .i64)],.one (.one .own (.bool))⟩
theorem Y8:EF.A:=Be trivial
def Q3:Int→Bool:=EF.V
def N5:Int→Prop:=EF.O
theorem Za:EF.B:=Bj trivial (by kernel_rfl) (fun x=>by kernel_rfl)
def lP:DCode:=(.seq [1] (.region [oa 0 1 (.boxB 0 4 (.t 0)),oa 1 2 (.mv (.c (.bool false)))]) (.seq [] (.seq [4,1] (.region [oa 0 3 (.fieldA 0 (.t 1)),oa 1 4 (.loadB 0 none (.t 3))]) (.block 0 (.seq [5,4,1] (.seq [5,4,1] (.region [oa 0 6 (.bin .eql (.t 4) (.c (.int .i64 0))),om 1 5 6]) (.cond (.t 5) .skip (.seq [5,4,1] (.region [oa 0 7 (.bin .eql (.t 4) (.c (.int .i64 1))),om 1 5 7]) (.cond (.t 5) .skip (.region [oa 0 8 (.bin .eql (.t 4) (.c (.int .i64 10))),om 1 5 8]))))) (.cond (.t 5) (.seq [2] (.region [oa 0 9 (.fieldA 1 (.t 1)),oa 1 10 (.loadB 0 none (.t 9)),oa 2 11 (.bin .eql (.t 10) (.c (.int .i64 0))),om 3 12 11,og 4 13 (.fieldA 2 (.t 1)) 12 true,og 5 14 (.loadB 0 none (.t 13)) 12 true,og 6 15 (.bin .eql (.t 14) (.c (.int .i64 0))) 12 true,oa 7 16 (.pick (.t 12) (.t 15) (.c (.bool false))),om 8 17 16,og 9 18 (.fieldA 3 (.t 1)) 17 true,og 10 19 (.loadB 0 none (.t 18)) 17 true,og 11 20 (.bin .eql (.t 19) (.c (.int .i64 0))) 17 true,oa 12 21 (.pick (.t 17) (.t 20) (.c (.bool false))),om 13 2 21]) .ret) (.seq [22,4,1] (.region [oa 0 23 (.bin .eql (.t 4) (.c (.int .i64 2))),om 1 22 23]) (.cond (.t 22) (.seq [2] (.region [oa 0 24 (.fieldA 3 (.t 1)),oa 1 25 (.loadB 0 none (.t 24)),oa 2 26 (.bin .eql (.t 25) (.c (.int .i64 0))),om 3 27 26,og 4 28 (.fieldA 1 (.t 1)) 27 true,og 5 29 (.loadB 0 none (.t 28)) 27 true,og 6 30 (.bin .eql (.t 29) (.c (.int .i64 0))) 27 true,og 7 31 (.mv (.t 30)) 27 true,og 8 32 (.fieldA 1 (.t 1)) 31 false,og 9 33 (.loadB 0 none (.t 32)) 31 false,⟨10,some 34,.call false EG.S EG.P EG.D [(.t 33)],(some (31,false)),[]⟩,og 11 35 (.pick (.t 31) (.c (.bool true)) (.t 34)) 27 true,oa 12 36 (.pick (.t 27) (.t 35) (.c (.bool false))),om 13 37 36,og 14 38 (.fieldA 2 (.t 1)) 37 true,og 15 39 (.loadB 0 none (.t 38)) 37 true,og 16 40 (.bin .eql (.t 39) (.c (.int .i64 0))) 37 true,og 17 41 (.mv (.t 40)) 37 true,og 18 42 (.fieldA 2 (.t 1)) 41 false,og 19 43 (.loadB 0 none (.t 42)) 41 false,⟨20,some 44,.call false Dq.S Dq.P Dq.D [(.t 43)],(some (41,false)),[]⟩,og 21 45 (.pick (.t 41) (.c (.bool true)) (.t 44)) 37 true,oa 22 46 (.pick (.t 37) (.t 45) (.c (.bool false))),om 23 47 46,og 24 48 (.fieldA 1 (.t 1)) 47 true,og 25 49 (.loadB 0 none (.t 48)) 47 true,og 26 50 (.bin .neq (.t 49) (.c (.int .i64 0))) 47 true,og 27 51 (.mv (.t 50)) 47 true,og 28 52 (.fieldA 2 (.t 1)) 51 false,og 29 53 (.loadB 0 none (.t 52)) 51 false,og 30 54 (.bin .neq (.t 53) (.c (.int .i64 0))) 51 false,og 31 55 (.pick (.t 51) (.c (.bool true)) (.t 54)) 47 true,oa 32 56 (.pick (.t 47) (.t 55) (.c (.bool false))),om 33 2 56]) .ret) (.seq [57,4,1] (.seq [57,4,1] (.region [oa 0 58 (.bin .eql (.t 4) (.c (.int .i64 3))),om 1 57 58]) (.cond (.t 57) .skip (.region [oa 0 59 (.bin .eql (.t 4) (.c (.int .i64 4))),om 1 57 59]))) (.cond (.t 57) (.seq [2] (.region [oa 0 60 (.fieldA 1 (.t 1)),oa 1 61 (.loadB 0 none (.t 60)),oa 2 62 (.bin .eql (.t 61) (.c (.int .i64 0))),om 3 63 62,og 4 64 (.fieldA 2 (.t 1)) 63 true,og 5 65 (.loadB 0 none (.t 64)) 63 true,og 6 66 (.bin .eql (.t 65) (.c (.int .i64 0))) 63 true,oa 7 67 (.pick (.t 63) (.t 66) (.c (.bool false))),om 8 68 67,og 9 69 (.fieldA 3 (.t 1)) 68 true,og 10 70 (.loadB 0 none (.t 69)) 68 true,⟨11,some 71,.call false EF.S EF.P EF.D [(.t 70)],(some (68,true)),[]⟩,oa 12 72 (.pick (.t 68) (.t 71) (.c (.bool false))),om 13 2 72]) .ret) (.seq [73,4,1] (.region [oa 0 74 (.bin .eql (.t 4) (.c (.int .i64 5))),om 1 73 74]) (.cond (.t 73) (.seq [2] (.region [oa 0 75 (.fieldA 1 (.t 1)),oa 1 76 (.loadB 0 none (.t 75)),oa 2 77 (.bin .eql (.t 76) (.c (.int .i64 0))),om 3 78 77,og 4 79 (.fieldA 2 (.t 1)) 78 true,og 5 80 (.loadB 0 none (.t 79)) 78 true,og 6 81 (.bin .eql (.t 80) (.c (.int .i64 0))) 78 true,oa 7 82 (.pick (.t 78) (.t 81) (.c (.bool false))),om 8 83 82,og 9 84 (.fieldA 3 (.t 1)) 83 true,og 10 85 (.loadB 0 none (.t 84)) 83 true,og 11 86 (.bin .geq (.t 85) (.c (.int .i64 0))) 83 true,oa 12 87 (.pick (.t 83) (.t 86) (.c (.bool false))),om 13 88 87,og 14 89 (.fieldA 3 (.t 1)) 88 true,og 15 90 (.loadB 0 none (.t 89)) 88 true,og 16 91 (.bin .leq (.t 90) (.c (.int .i64 3))) 88 true,oa 17 92 (.pick (.t 88) (.t 91) (.c (.bool false))),om 18 2 92]) .ret) (.seq [93,4,1] (.region [oa 0 94 (.bin .eql (.t 4) (.c (.int .i64 9))),om 1 93 94]) (.cond (.t 93) (.seq [2] (.region [oa 0 95 (.fieldA 1 (.t 1)),oa 1 96 (.loadB 0 none (.t 95)),oa 2 97 (.bin .eql (.t 96) (.c (.int .i64 0))),om 3 98 97,og 4 99 (.fieldA 2 (.t 1)) 98 true,og 5 100 (.loadB 0 none (.t 99)) 98 true,og 6 101 (.bin .eql (.t 100) (.c (.int .i64 0))) 98 true,oa 7 102 (.pick (.t 98) (.t 101) (.c (.bool false))),om 8 103 102,og 9 104 (.fieldA 3 (.t 1)) 103 true,og 10 105 (.loadB 0 none (.t 104)) 103 true,og 11 106 (.bin .geq (.t 105) (.c (.int .i64 0))) 103 true,oa 12 107 (.pick (.t 103) (.t 106) (.c (.bool false))),om 13 108 107,og 14 109 (.fieldA 3 (.t 1)) 108 true,og 15 110 (.loadB 0 none (.t 109)) 108 true,og 16 111 (.bin .leq (.t 110) (.c (.int .i64 3))) 108 true,oa 17 112 (.pick (.t 108) (.t 111) (.c (.bool false))),om 18 2 112]) .ret) (.seq [113,4,1] (.region [oa 0 114 (.bin .eql (.t 4) (.c (.int .i64 6))),om 1 113 114]) (.cond (.t 113) (.seq [2] (.region [oa 0 115 (.fieldA 1 (.t 1)),oa 1 116 (.loadB 0 none (.t 115)),oF 2 117 EG [(.t 116)],om 3 118 117,og 4 119 (.fieldA 2 (.t 1)) 118 true,og 5 120 (.loadB 0 none (.t 119)) 118 true,⟨6,some 121,.call false Dq.S Dq.P Dq.D [(.t 120)],(some (118,true)),[]⟩,oa 7 122 (.pick (.t 118) (.t 121) (.c (.bool false))),om 8 123 122,og 9 124 (.fieldA 3 (.t 1)) 123 true,og 10 125 (.loadB 0 none (.t 124)) 123 true,og 11 126 (.bin .eql (.t 125) (.c (.int .i64 0))) 123 true,oa 12 127 (.pick (.t 123) (.t 126) (.c (.bool false))),om 13 2 127]) .ret) (.seq [128,4,1] (.region [oa 0 129 (.bin .eql (.t 4) (.c (.int .i64 7))),om 1 128 129]) (.cond (.t 128) (.seq [2] (.region [oa 0 130 (.fieldA 1 (.t 1)),oa 1 131 (.loadB 0 none (.t 130)),oF 2 132 EG [(.t 131)],om 3 133 132,og 4 134 (.fieldA 2 (.t 1)) 133 true,og 5 135 (.loadB 0 none (.t 134)) 133 true,og 6 136 (.bin .eql (.t 135) (.c (.int .i64 0))) 133 true,oa 7 137 (.pick (.t 133) (.t 136) (.c (.bool false))),om 8 138 137,og 9 139 (.fieldA 3 (.t 1)) 138 true,og 10 140 (.loadB 0 none (.t 139)) 138 true,⟨11,some 141,.call false EF.S EF.P EF.D [(.t 140)],(some (138,true)),[]⟩,oa 12 142 (.pick (.t 138) (.t 141) (.c (.bool false))),om 13 2 142]) .ret) (.seq [143,1] (.region [oa 0 144 (.bin .eql (.t 4) (.c (.int .i64 8))),om 1 143 144]) (.cond (.t 143) (.seq [2] (.region [oa 0 145 (.fieldA 1 (.t 1)),oa 1 146 (.loadB 0 none (.t 145)),oa 2 147 (.bin .eql (.t 146) (.c (.int .i64 0))),om 3 148 147,og 4 149 (.fieldA 2 (.t 1)) 148 true,og 5 150 (.loadB 0 none (.t 149)) 148 true,⟨6,some 151,.call false Dq.S Dq.P Dq.D [(.t 150)],(some (148,true)),[]⟩,oa 7 152 (.pick (.t 148) (.t 151) (.c (.bool false))),om 8 153 152,og 9 154 (.fieldA 3 (.t 1)) 153 true,og 10 155 (.loadB 0 none (.t 154)) 153 true,og 11 156 (.bin .eql (.t 155) (.c (.int .i64 0))) 153 true,oa 12 157 (.pick (.t 153) (.t 156) (.c (.bool false))),om 13 2 157]) .ret) .skip)))))))))))))))))) (.seq [2] (.region [oa 0 2 (.mv (.c (.bool false)))]) .ret)))
def Fy:Fn:=⟨⟨1,158,1,true,[.tmp 2],lP⟩,[.agg [(.frz,.int .i64),(.frz,.int .i64),(.frz,.int .i64),(.frz,.int .i64)]],.one (.one .own (.bool))⟩
theorem Uh:Fy.A:=Be ⟨Ut,Uw,Y8,Ut,Uw,Ut,Y8,Uw,trivial⟩
def ED:Int×Int×Int×Int→Bool:=Fy.V
def KA:Int×Int×Int×Int→Prop:=Fy.O
theorem Ul:Fy.B:=Bj ⟨Uv,Uu,Za,Uv,Uu,Uv,Za,Uu,trivial⟩ (by kernel_rfl) (fun x=>by kernel_rfl)
def lX:DCode:=(.seq [3,2] (.region [oa 0 2 (.boxB 0 4 (.t 0)),oa 1 3 (.boxB 1 4 (.t 1)),oa 2 4 (.mv (.c (.bool false)))]) (.seq [3,2] (.seq [9,3,2] (.region [oa 0 5 (.fieldA 0 (.t 2)),oa 1 6 (.loadB 0 none (.t 5)),oa 2 7 (.fieldA 0 (.t 3)),oa 3 8 (.loadB 1 none (.t 7)),oa 4 9 (.bin .neq (.t 6) (.t 8))]) (.cond (.t 9) (.seq [4] (.region [oa 0 4 (.mv (.c (.bool false)))]) .ret) .skip)) (.seq [3,2] (.seq [14,3,2] (.region [oa 0 10 (.fieldA 1 (.t 2)),oa 1 11 (.loadB 0 none (.t 10)),oa 2 12 (.fieldA 1 (.t 3)),oa 3 13 (.loadB 1 none (.t 12)),oa 4 14 (.bin .neq (.t 11) (.t 13))]) (.cond (.t 14) (.seq [4] (.region [oa 0 4 (.mv (.c (.bool false)))]) .ret) .skip)) (.seq [3,2] (.seq [19,3,2] (.region [oa 0 15 (.fieldA 2 (.t 2)),oa 1 16 (.loadB 0 none (.t 15)),oa 2 17 (.fieldA 2 (.t 3)),oa 3 18 (.loadB 1 none (.t 17)),oa 4 19 (.bin .neq (.t 16) (.t 18))]) (.cond (.t 19) (.seq [4] (.region [oa 0 4 (.mv (.c (.bool false)))]) .ret) .skip)) (.seq [] (.seq [24] (.region [oa 0 20 (.fieldA 3 (.t 2)),oa 1 21 (.loadB 0 none (.t 20)),oa 2 22 (.fieldA 3 (.t 3)),oa 3 23 (.loadB 1 none (.t 22)),oa 4 24 (.bin .neq (.t 21) (.t 23))]) (.cond (.t 24) (.seq [4] (.region [oa 0 4 (.mv (.c (.bool false)))]) .ret) .skip)) (.seq [4] (.region [oa 0 4 (.mv (.c (.bool true)))]) .ret))))))
def IE:Fn:=⟨⟨2,25,2,true,[.tmp 4],lX⟩,[.agg [(.frz,.int .i64),(.frz,.int .i64),(.frz,.int .i64),(.frz,.int .i64)],.agg [(.frz,.int .i64),(.frz,.int .i64),(.frz,.int .i64),(.frz,.int .i64)]],.one (.one .own (.bool))⟩
theorem kY:IE.A:=Be trivial
def IA:(Int×Int×Int×Int)×(Int×Int×Int×Int)→Bool:=IE.V
def N3:(Int×Int×Int×Int)×(Int×Int×Int×Int)→Prop:=IE.O
theorem lV:IE.B:=Bj trivial (by kernel_rfl) (fun x=>by kernel_rfl)
end
section
set_option maxRecDepth 100000
theorem Hr (x):Co x=(bAnd (iGe x.1 x.2.1) (iLe x.1 x.2.2)):=(Cn.v x).trans (by kernel_rfl)
theorem Og (x):F6 x=True:=(Cn.o x).trans (by kernel_rfl)
theorem Um (x):Cc x=(bSel (bOr (iEq x.1 0) (bOr (iEq x.1 1) (iEq x.1 10))) (bAnd (iEq x.2.1 0) (bAnd (iEq x.2.2.1 0) (iEq x.2.2.2 0))) (bSel (iEq x.1 2) (bAnd (iEq x.2.2.2 0) (bSel (Co (x.2.1,1,56)) (bOr (Co (x.2.2.1,1,15)) (iEq x.2.2.1 0)) (bAnd (iEq x.2.1 0) (bAnd (Co (x.2.2.1,1,15)) (bOr (Co (x.2.2.1,1,15)) (iEq x.2.2.1 0)))))) (bSel (bOr (iEq x.1 3) (iEq x.1 4)) (bAnd (Co (x.2.2.2,1,3)) (bAnd (iEq x.2.1 0) (iEq x.2.2.1 0))) (bSel (bOr (iEq x.1 5) (iEq x.1 9)) (bAnd (Co (x.2.2.2,0,3)) (bAnd (iEq x.2.1 0) (iEq x.2.2.1 0))) (bSel (iEq x.1 6) (bAnd (Co (x.2.1,1,56)) (bAnd (Co (x.2.2.1,1,15)) (iEq x.2.2.2 0))) (bSel (iEq x.1 7) (bAnd (Co (x.2.1,1,56)) (bAnd (Co (x.2.2.2,1,3)) (iEq x.2.2.1 0))) (bAnd (iEq x.1 8) (bAnd (Co (x.2.2.1,1,15)) (bAnd (iEq x.2.1 0) (iEq x.2.2.2 0)))))))))):=(GF.v x).trans (by kernel_rfl)
theorem lR (x):L3 x=((F6 (x.2.1,1,56))∧((F6 (x.2.2.1,1,15))∧((F6 (x.2.2.2,1,3))∧(((bOr (iEq x.1 0) (bOr (iEq x.1 1) (iEq x.1 10)))=true→True)∧((bOr (iEq x.1 0) (bOr (iEq x.1 1) (iEq x.1 10)))=false→(((iEq x.1 2)=true→True)∧((iEq x.1 2)=false→(((bOr (iEq x.1 3) (iEq x.1 4))=true→True)∧((bOr (iEq x.1 3) (iEq x.1 4))=false→(((bOr (iEq x.1 5) (iEq x.1 9))=true→(F6 (x.2.2.2,0,3)))∧((bOr (iEq x.1 5) (iEq x.1 9))=false→True))))))))))):=(GF.o x).trans (by kernel_rfl)
theorem mF (x):GP x=(bAnd (iGe x 1) (iLe x 56)):=(EG.v x).trans (by kernel_rfl)
theorem my (x):Mc x=True:=(EG.o x).trans (by kernel_rfl)
theorem mN (x):Mf x=(bAnd (iGe x 1) (iLe x 15)):=(Dq.v x).trans (by kernel_rfl)
theorem mK (x):KH x=True:=(Dq.o x).trans (by kernel_rfl)
theorem mb (x):Q3 x=(bAnd (iGe x 1) (iLe x 3)):=(EF.v x).trans (by kernel_rfl)
theorem l7 (x):N5 x=True:=(EF.o x).trans (by kernel_rfl)
theorem lk (x):ED x=(bSel (bOr (iEq x.1 0) (bOr (iEq x.1 1) (iEq x.1 10))) (bAnd (iEq x.2.1 0) (bAnd (iEq x.2.2.1 0) (iEq x.2.2.2 0))) (bSel (iEq x.1 2) (bAnd (iEq x.2.2.2 0) (bSel (iEq x.2.1 0) (bSel (iEq x.2.2.1 0) (bOr (iNe x.2.1 0) (iNe x.2.2.1 0)) (bAnd (Mf x.2.2.1) (bOr (iNe x.2.1 0) (iNe x.2.2.1 0)))) (bAnd (GP x.2.1) (bSel (iEq x.2.2.1 0) (bOr (iNe x.2.1 0) (iNe x.2.2.1 0)) (bAnd (Mf x.2.2.1) (bOr (iNe x.2.1 0) (iNe x.2.2.1 0))))))) (bSel (bOr (iEq x.1 3) (iEq x.1 4)) (bAnd (iEq x.2.1 0) (bAnd (iEq x.2.2.1 0) (Q3 x.2.2.2))) (bSel (iEq x.1 5) (bAnd (iEq x.2.1 0) (bAnd (iEq x.2.2.1 0) (bAnd (iGe x.2.2.2 0) (iLe x.2.2.2 3)))) (bSel (iEq x.1 9) (bAnd (iEq x.2.1 0) (bAnd (iEq x.2.2.1 0) (bAnd (iGe x.2.2.2 0) (iLe x.2.2.2 3)))) (bSel (iEq x.1 6) (bAnd (GP x.2.1) (bAnd (Mf x.2.2.1) (iEq x.2.2.2 0))) (bSel (iEq x.1 7) (bAnd (GP x.2.1) (bAnd (iEq x.2.2.1 0) (Q3 x.2.2.2))) (bAnd (iEq x.1 8) (bAnd (iEq x.2.1 0) (bAnd (Mf x.2.2.1) (iEq x.2.2.2 0))))))))))):=(Fy.v x).trans (by kernel_rfl)
theorem k8 (x):KA x=(((bOr (iEq x.1 0) (bOr (iEq x.1 1) (iEq x.1 10)))=true→True)∧((bOr (iEq x.1 0) (bOr (iEq x.1 1) (iEq x.1 10)))=false→(((iEq x.1 2)=true→(((iEq x.2.2.2 0)=true→(((iEq x.2.1 0)=true→(((iEq x.2.2.1 0)=true→True)∧((iEq x.2.2.1 0)=false→(KH x.2.2.1))))∧((iEq x.2.1 0)=false→((Mc x.2.1)∧(((GP x.2.1)=true→(((iEq x.2.2.1 0)=true→True)∧((iEq x.2.2.1 0)=false→(KH x.2.2.1))))∧((GP x.2.1)=false→True))))))∧((iEq x.2.2.2 0)=false→True)))∧((iEq x.1 2)=false→(((bOr (iEq x.1 3) (iEq x.1 4))=true→(((iEq x.2.1 0)=true→(((iEq x.2.2.1 0)=true→(N5 x.2.2.2))∧((iEq x.2.2.1 0)=false→True)))∧((iEq x.2.1 0)=false→True)))∧((bOr (iEq x.1 3) (iEq x.1 4))=false→(((iEq x.1 5)=true→True)∧((iEq x.1 5)=false→(((iEq x.1 9)=true→True)∧((iEq x.1 9)=false→(((iEq x.1 6)=true→((Mc x.2.1)∧(((GP x.2.1)=true→(KH x.2.2.1))∧((GP x.2.1)=false→True))))∧((iEq x.1 6)=false→(((iEq x.1 7)=true→((Mc x.2.1)∧(((GP x.2.1)=true→(((iEq x.2.2.1 0)=true→(N5 x.2.2.2))∧((iEq x.2.2.1 0)=false→True)))∧((GP x.2.1)=false→True))))∧((iEq x.1 7)=false→(((iEq x.1 8)=true→(((iEq x.2.1 0)=true→(KH x.2.2.1))∧((iEq x.2.1 0)=false→True)))∧((iEq x.1 8)=false→True)))))))))))))))):=(Fy.o x).trans (by kernel_rfl)
theorem lq (x):IA x=(bAnd (bNot (iNe x.1.1 x.2.1)) (bAnd (bNot (iNe x.1.2.1 x.2.2.1)) (bAnd (bNot (iNe x.1.2.2.1 x.2.2.2.1)) (bNot (iNe x.1.2.2.2 x.2.2.2.2))))):=(IE.v x).trans (by kernel_rfl)
theorem lM (x):N3 x=True:=(IE.o x).trans (by kernel_rfl)
attribute [irreducible] Co F6 Cc L3 GP Mc Mf KH Q3 N5 ED KA IA N3
end
section
set_option maxRecDepth 8000
def n9:DCode:=(.seq [1,0] (.region [oi 0 4 0]) (.seq [4] (.region [om 0 5 0,om 1 6 1,oa 2 7 (.bin .shr (.t 5) (.t 6)),oa 3 8 (.bin .and (.t 7) (.c (.int .i64 1))),om 4 4 8]) .ret))
def IJ:Fn:=⟨⟨2,9,0,true,[.tmp 4],n9⟩,[.one .frz (.int .i64),.one .frz (.int .i64)],.one (.one .own (.int .i64))⟩
theorem oe:IJ.A:=Be trivial
def Ox:Int×Int→Int:=IJ.V
def UR:Int×Int→Prop:=IJ.O
theorem oQ:IJ.B:=Bj trivial (by kernel_rfl) (fun x=>by kernel_rfl)
end
section
set_option maxRecDepth 100000
theorem ot (x):Ox x=(iAnd .i64 (iShr .i64 x.1 x.2) 1):=(IJ.v x).trans (by kernel_rfl)
theorem oz (x):UR x=((0:Int)≤x.2):=(IJ.o x).trans (by kernel_rfl)
attribute [irreducible] Ox UR
end
section
set_option maxRecDepth 8000
def lY:DCode:=(.seq [1] (.region [oa 0 1 (.boxB 0 2 (.t 0)),oa 1 2 (.mv (.c (.bool false)))]) (.seq [1] (.seq [3,1] (.region [oi 0 3 0]) (.block 0 (.loop [1,3] 1 (.seq [3,1] (.seq [10,3,1] (.region [om 0 6 3,oa 1 7 (.fieldA 1 (.t 1)),oa 2 8 (.loadB 0 none (.t 7)),oa 3 9 (.len (.t 8)),oa 4 10 (.bin .lss (.t 6) (.t 9))]) (.cond (.t 10) .skip (.exit 0))) (.seq [3,1] (.block 1 (.seq [3,1] (.seq [21,3,1] (.region [oa 0 13 (.fieldA 1 (.t 1)),xA 1 14 (.loadB 0 none (.t 13)) (rg 1),om 2 15 3,xA 3 16 (.indexA 1 (.t 14) (.t 15)) (rg 3),xA 4 17 (.loadH none (.t 16)) (rg 4),xA 5 18 (.len (.t 17)) (rg 5),oa 6 19 (.fieldA 0 (.t 1)),xA 7 20 (.loadB 0 none (.t 19)) [6],xA 8 21 (.bin .neq (.t 18) (.t 20)) (rg 8)]) (.cond (.t 21) (.seq [2] (.region [oa 0 2 (.mv (.c (.bool false)))]) .ret) .skip)) (.seq [4,3,1] (.region [oi 0 4 0]) (.block 2 (.loop [1,3,4] 1 (.seq [4,3,1] (.seq [29,4,3,1] (.region [om 0 22 4,oa 1 23 (.fieldA 1 (.t 1)),oa 2 24 (.loadB 0 none (.t 23)),om 3 25 3,oa 4 26 (.indexA 1 (.t 24) (.t 25)),oa 5 27 (.loadH none (.t 26)),oa 6 28 (.len (.t 27)),oa 7 29 (.bin .lss (.t 22) (.t 28))]) (.cond (.t 29) .skip (.exit 2))) (.seq [4,3,1] (.block 3 (.seq [5,4,3,1] (.region [oa 0 32 (.fieldA 1 (.t 1)),oa 1 33 (.loadB 0 none (.t 32)),om 2 34 3,oa 3 35 (.indexA 1 (.t 33) (.t 34)),oa 4 36 (.loadH none (.t 35)),om 5 37 4,oa 6 38 (.indexA 4 (.t 36) (.t 37)),ob 7 39 (.loadH (some 4) (.t 38)),oa 8 5 (.allocB 1 [(.int .i64 0),(.int .i64 0),(.int .i64 0),(.int .i64 0)]),os 9 (.storeB 1 4 (.t 5) (.t 39))]) (.seq [64,4,3,1] (.region [oa 0 40 (.loadB 1 (some 4) (.t 5)),oF 1 41 GF [(.t 40)],oa 2 42 (.un .not (.t 41)),om 3 43 42,og 4 44 (.fieldA 0 (.t 5)) 43 false,og 5 45 (.loadB 1 none (.t 44)) 43 false,og 6 46 (.bin .eql (.t 45) (.c (.int .i64 1))) 43 false,og 7 47 (.mv (.t 46)) 43 false,og 8 48 (.mv (.t 3)) 47 true,og 9 49 (.bin .eql (.t 48) (.c (.int .i64 0))) 47 true,og 10 50 (.pick (.t 47) (.t 49) (.c (.bool false))) 43 false,oa 11 51 (.pick (.t 43) (.c (.bool true)) (.t 50)),om 12 52 51,og 13 53 (.fieldA 0 (.t 5)) 52 false,og 14 54 (.loadB 1 none (.t 53)) 52 false,og 15 55 (.bin .neq (.t 54) (.c (.int .i64 9))) 52 false,og 16 56 (.mv (.t 55)) 52 false,og 17 57 (.fieldA 3 (.t 5)) 56 true,og 18 58 (.loadB 1 none (.t 57)) 56 true,og 19 59 (.fieldA 1 (.t 1)) 56 true,og 20 60 (.loadB 0 none (.t 59)) 56 true,og 21 61 (.len (.t 60)) 56 true,og 22 62 (.bin .geq (.t 58) (.t 61)) 56 true,og 23 63 (.pick (.t 56) (.t 62) (.c (.bool false))) 52 false,oa 24 64 (.pick (.t 52) (.c (.bool true)) (.t 63))]) (.cond (.t 64) (.seq [2] (.region [oa 0 2 (.mv (.c (.bool false)))]) .ret) .skip)))) (.region [om 0 30 4,oa 1 31 (.bin .add (.t 30) (.c (.int .i64 1))),om 2 4 31])))))))) (.region [om 0 11 3,oa 1 12 (.bin .add (.t 11) (.c (.int .i64 1))),om 2 3 12])))))) (.seq [2] (.region [oa 0 65 (.fieldA 0 (.t 1)),oa 1 66 (.loadB 0 none (.t 65)),oF 2 67 Cn [(.t 66),(.c (.int .i64 1)),(.c (.int .i64 32))],om 3 68 67,og 4 69 (.fieldA 1 (.t 1)) 68 true,og 5 70 (.loadB 0 none (.t 69)) 68 true,og 6 71 (.len (.t 70)) 68 true,⟨7,some 72,.call false Cn.S Cn.P Cn.D [(.t 71),(.c (.int .i64 1)),(.c (.int .i64 4))],(some (68,true)),[]⟩,oa 8 73 (.pick (.t 68) (.t 72) (.c (.bool false))),om 9 2 73]) .ret)))
def IC:Fn:=⟨⟨1,74,2,true,[.tmp 2],lY⟩,[.agg [(.frz,.int .i64),(.frz,.sl (.one (.sl AR)))]],.one (.one .own (.bool))⟩
theorem lU:IC.A:=Be ⟨YR,Jx,Jx,trivial⟩
def KE:Int×(List (List (Int×Int×Int×Int)))→Bool:=IC.V
def NY:Int×(List (List (Int×Int×Int×Int)))→Prop:=IC.O
theorem lI:IC.B:=Bj ⟨YT,Jw,Jw,trivial⟩ (by kernel_rfl) (fun x=>by kernel_rfl)
def lA:DCode:=(.seq [1] (.region [oa 0 1 (.boxB 0 2 (.t 0)),oa 1 2 (.mv (.c (.bool false)))]) (.seq [1] (.seq [26,1] (.region [oa 0 7 (.fieldA 0 (.t 1)),oa 1 8 (.loadB 0 none (.t 7)),oa 2 9 (.bin .lss (.t 8) (.c (.int .i64 1))),om 3 10 9,og 4 11 (.fieldA 0 (.t 1)) 10 false,og 5 12 (.loadB 0 none (.t 11)) 10 false,og 6 13 (.bin .gtr (.t 12) (.c (.int .i64 32))) 10 false,oa 7 14 (.pick (.t 10) (.c (.bool true)) (.t 13)),om 8 15 14,og 9 16 (.fieldA 1 (.t 1)) 15 false,og 10 17 (.loadB 0 none (.t 16)) 15 false,og 11 18 (.len (.t 17)) 15 false,og 12 19 (.bin .lss (.t 18) (.c (.int .i64 1))) 15 false,oa 13 20 (.pick (.t 15) (.c (.bool true)) (.t 19)),om 14 21 20,og 15 22 (.fieldA 1 (.t 1)) 21 false,og 16 23 (.loadB 0 none (.t 22)) 21 false,og 17 24 (.len (.t 23)) 21 false,og 18 25 (.bin .gtr (.t 24) (.c (.int .i64 4))) 21 false,oa 19 26 (.pick (.t 21) (.c (.bool true)) (.t 25))]) (.cond (.t 26) (.seq [2] (.region [oa 0 2 (.mv (.c (.bool false)))]) .ret) .skip)) (.seq [] (.seq [30,29,28,1] (.region [oa 0 27 (.fieldA 1 (.t 1)),oa 1 28 (.loadB 0 none (.t 27)),oa 2 29 (.len (.t 28)),oi 3 30 0]) (.block 0 (.loop [1,28,29,30] 1 (.seq [31,30,29,28,1] (.region [oa 0 31 (.bin .lss (.t 30) (.t 29))]) (.seq [30,29,28,1] (.cond (.t 31) .skip (.exit 0)) (.seq [30,29,28,1] (.block 1 (.seq [30,29,28,4,3,1] (.region [om 0 32 30,oa 1 33 (.indexA 1 (.t 28) (.t 30)),oa 2 34 (.loadH none (.t 33)),om 3 3 32,on 4 4 34]) (.seq [30,29,28,4,3,1] (.seq [39,30,29,28,4,3,1] (.region [on 0 35 4,oa 1 36 (.len (.t 35)),oa 2 37 (.fieldA 0 (.t 1)),oa 3 38 (.loadB 0 none (.t 37)),oa 4 39 (.bin .neq (.t 36) (.t 38))]) (.cond (.t 39) (.seq [2] (.region [oa 0 2 (.mv (.c (.bool false)))]) .ret) .skip)) (.seq [42,41,40,30,29,28,3,1] (.region [on 0 40 4,oa 1 41 (.len (.t 40)),oi 2 42 0]) (.block 2 (.loop [1,3,28,29,30,40,41,42] 1 (.seq [43,42,41,40,30,29,28,3,1] (.region [oa 0 43 (.bin .lss (.t 42) (.t 41))]) (.seq [42,41,40,30,29,28,3,1] (.cond (.t 43) .skip (.exit 2)) (.seq [42,41,40,30,29,28,3,1] (.block 3 (.seq [42,41,40,30,29,28,6,3,1] (.region [oa 0 44 (.indexA 4 (.t 40) (.t 42)),ob 1 45 (.loadH (some 4) (.t 44)),oa 2 6 (.allocB 1 [(.int .i64 0),(.int .i64 0),(.int .i64 0),(.int .i64 0)]),os 3 (.storeB 1 4 (.t 6) (.t 45))]) (.seq [70,42,41,40,30,29,28,3,1] (.region [oa 0 46 (.loadB 1 (some 4) (.t 6)),oF 1 47 Fy [(.t 46)],oa 2 48 (.un .not (.t 47)),om 3 49 48,og 4 50 (.mv (.t 3)) 49 false,og 5 51 (.bin .eql (.t 50) (.c (.int .i64 0))) 49 false,og 6 52 (.mv (.t 51)) 49 false,og 7 53 (.fieldA 0 (.t 6)) 52 true,og 8 54 (.loadB 1 none (.t 53)) 52 true,og 9 55 (.bin .eql (.t 54) (.c (.int .i64 1))) 52 true,og 10 56 (.pick (.t 52) (.t 55) (.c (.bool false))) 49 false,oa 11 57 (.pick (.t 49) (.c (.bool true)) (.t 56)),om 12 58 57,og 13 59 (.fieldA 0 (.t 6)) 58 false,og 14 60 (.loadB 1 none (.t 59)) 58 false,og 15 61 (.bin .neq (.t 60) (.c (.int .i64 9))) 58 false,og 16 62 (.mv (.t 61)) 58 false,og 17 63 (.fieldA 3 (.t 6)) 62 true,og 18 64 (.loadB 1 none (.t 63)) 62 true,og 19 65 (.fieldA 1 (.t 1)) 62 true,og 20 66 (.loadB 0 none (.t 65)) 62 true,og 21 67 (.len (.t 66)) 62 true,og 22 68 (.bin .geq (.t 64) (.t 67)) 62 true,og 23 69 (.pick (.t 62) (.t 68) (.c (.bool false))) 58 false,oa 24 70 (.pick (.t 58) (.c (.bool true)) (.t 69))]) (.cond (.t 70) (.seq [2] (.region [oa 0 2 (.mv (.c (.bool false)))]) .ret) .skip)))) (.region [oa 0 71 (.bin .add (.t 42) (.c (.int .i64 1))),om 1 42 71])))))))))) (.region [oa 0 72 (.bin .add (.t 30) (.c (.int .i64 1))),om 1 30 72]))))))) (.seq [2] (.region [oa 0 2 (.mv (.c (.bool true)))]) .ret))))
def GH:Fn:=⟨⟨1,73,2,true,[.tmp 2],lA⟩,[.agg [(.frz,.int .i64),(.frz,.sl (.one (.sl AR)))]],.one (.one .own (.bool))⟩
theorem YU:GH.A:=Be ⟨Uh,trivial⟩
def E6:Int×(List (List (Int×Int×Int×Int)))→Bool:=GH.V
def NZ:Int×(List (List (Int×Int×Int×Int)))→Prop:=GH.O
theorem YM:GH.B:=Bj ⟨Ul,trivial⟩ (by kernel_rfl) (fun x=>by kernel_rfl)
def kT:DCode:=(.seq [1,0] (.region [oa 0 4 (.mv (.c (.bool false)))]) (.seq [1,0] (.seq [10,1,0] (.region [on 0 6 0,oa 1 7 (.len (.t 6)),on 2 8 1,oa 3 9 (.len (.t 8)),oa 4 10 (.bin .neq (.t 7) (.t 9))]) (.cond (.t 10) (.seq [4] (.region [oa 0 4 (.mv (.c (.bool false)))]) .ret) .skip)) (.seq [] (.seq [5,1,0] (.region [oi 0 5 0]) (.block 0 (.loop [0,1,5] 1 (.seq [5,1,0] (.seq [14,5,1,0] (.region [om 0 11 5,on 1 12 0,oa 2 13 (.len (.t 12)),oa 3 14 (.bin .lss (.t 11) (.t 13))]) (.cond (.t 14) .skip (.exit 0))) (.seq [5,1,0] (.block 1 (.seq [26,5,1,0] (.region [on 0 17 0,om 1 18 5,xA 2 19 (.indexA 4 (.t 17) (.t 18)) (rg 2),xA 3 20 (.loadH (some 4) (.t 19)) (rg 3),on 4 21 1,om 5 22 5,xA 6 23 (.indexA 4 (.t 21) (.t 22)) [4,5],xA 7 24 (.loadH (some 4) (.t 23)) [4,5,6],xF 8 25 IE [(.t 20),(.t 24)] (rg 8),xA 9 26 (.un .not (.t 25)) (rg 9)]) (.cond (.t 26) (.seq [4] (.region [oa 0 4 (.mv (.c (.bool false)))]) .ret) .skip))) (.region [om 0 15 5,oa 1 16 (.bin .add (.t 15) (.c (.int .i64 1))),om 2 5 16])))))) (.seq [4] (.region [oa 0 4 (.mv (.c (.bool true)))]) .ret))))
def Iy:Fn:=⟨⟨2,27,0,true,[.tmp 4],kT⟩,[.one .frz (.sl AR),.one .frz (.sl AR)],.one (.one .own (.bool))⟩
theorem kP:Iy.A:=Be ⟨kY,trivial⟩
def Iv:(List (Int×Int×Int×Int))×(List (Int×Int×Int×Int))→Bool:=Iy.V
def NU:(List (Int×Int×Int×Int))×(List (Int×Int×Int×Int))→Prop:=Iy.O
theorem kN:Iy.B:=Bj ⟨lV,trivial⟩ (by kernel_rfl) (fun x=>by kernel_rfl)
def ke:DCode:=(.seq [1,0] (.region [oa 0 4 (.mv (.c (.bool false)))]) (.seq [1,0] (.seq [10,1,0] (.region [on 0 6 0,oa 1 7 (.len (.t 6)),on 2 8 1,oa 3 9 (.len (.t 8)),oa 4 10 (.bin .neq (.t 7) (.t 9))]) (.cond (.t 10) (.seq [4] (.region [oa 0 4 (.mv (.c (.bool false)))]) .ret) .skip)) (.seq [] (.seq [5,1,0] (.region [oi 0 5 0]) (.block 0 (.loop [0,1,5] 1 (.seq [5,1,0] (.seq [14,5,1,0] (.region [om 0 11 5,on 1 12 0,oa 2 13 (.len (.t 12)),oa 3 14 (.bin .lss (.t 11) (.t 13))]) (.cond (.t 14) .skip (.exit 0))) (.seq [5,1,0] (.block 1 (.seq [26,5,1,0] (.region [on 0 17 0,om 1 18 5,xA 2 19 (.indexA 1 (.t 17) (.t 18)) (rg 2),xA 3 20 (.loadH none (.t 19)) (rg 3),on 4 21 1,om 5 22 5,xA 6 23 (.indexA 1 (.t 21) (.t 22)) [4,5],xA 7 24 (.loadH none (.t 23)) [4,5,6],xF 8 25 Iy [(.t 20),(.t 24)] (rg 8),xA 9 26 (.un .not (.t 25)) (rg 9)]) (.cond (.t 26) (.seq [4] (.region [oa 0 4 (.mv (.c (.bool false)))]) .ret) .skip))) (.region [om 0 15 5,oa 1 16 (.bin .add (.t 15) (.c (.int .i64 1))),om 2 5 16])))))) (.seq [4] (.region [oa 0 4 (.mv (.c (.bool true)))]) .ret))))
def Is:Fn:=⟨⟨2,27,0,true,[.tmp 4],ke⟩,[.one .frz (.sl (.one (.sl AR))),.one .frz (.sl (.one (.sl AR)))],.one (.one .own (.bool))⟩
theorem kt:Is.A:=Be ⟨kP,trivial⟩
def QK:(List (List (Int×Int×Int×Int)))×(List (List (Int×Int×Int×Int)))→Bool:=Is.V
def QE:(List (List (Int×Int×Int×Int)))×(List (List (Int×Int×Int×Int)))→Prop:=Is.O
theorem kl:Is.B:=Bj ⟨kN,trivial⟩ (by kernel_rfl) (fun x=>by kernel_rfl)
def kX:DCode:=(.seq [3,2] (.region [oa 0 2 (.boxB 0 2 (.t 0)),oa 1 3 (.boxB 1 2 (.t 1)),oa 2 4 (.mv (.c (.bool false)))]) (.seq [3,2] (.seq [9,3,2] (.region [oa 0 5 (.fieldA 0 (.t 2)),oa 1 6 (.loadB 0 none (.t 5)),oa 2 7 (.fieldA 0 (.t 3)),oa 3 8 (.loadB 1 none (.t 7)),oa 4 9 (.bin .neq (.t 6) (.t 8))]) (.cond (.t 9) (.seq [4] (.region [oa 0 4 (.mv (.c (.bool false)))]) .ret) .skip)) (.seq [] (.seq [15] (.region [oa 0 10 (.fieldA 1 (.t 2)),oa 1 11 (.loadB 0 none (.t 10)),oa 2 12 (.fieldA 1 (.t 3)),oa 3 13 (.loadB 1 none (.t 12)),oF 4 14 Is [(.t 11),(.t 13)],oa 5 15 (.un .not (.t 14))]) (.cond (.t 15) (.seq [4] (.region [oa 0 4 (.mv (.c (.bool false)))]) .ret) .skip)) (.seq [4] (.region [oa 0 4 (.mv (.c (.bool true)))]) .ret))))
def GJ:Fn:=⟨⟨2,16,2,true,[.tmp 4],kX⟩,[.agg [(.frz,.int .i64),(.frz,.sl (.one (.sl AR)))],.agg [(.frz,.int .i64),(.frz,.sl (.one (.sl AR)))]],.one (.one .own (.bool))⟩
theorem YO:GJ.A:=Be ⟨kt,trivial⟩
def IB:(Int×(List (List (Int×Int×Int×Int))))×(Int×(List (List (Int×Int×Int×Int))))→Bool:=GJ.V
def N2:(Int×(List (List (Int×Int×Int×Int))))×(Int×(List (List (Int×Int×Int×Int))))→Prop:=GJ.O
theorem YW:GJ.B:=Bj ⟨kl,trivial⟩ (by kernel_rfl) (fun x=>by kernel_rfl)
end
section
set_option maxRecDepth 100000
theorem lL (x):KE x=(bAnd (bNot (iLt (Am (fun(x0:Int)=>(bAnd (iLt x0 (lLen x.2)) (bAnd (bNot (iNe (lLen (lGet x.2 (iNat x0) [])) x.1)) (bNot (iLt (Am (fun(x1:Int)=>(bAnd (iLt x1 (lLen (lGet x.2 (iNat x0) []))) (bNot (bOr (bNot (Cc ((lGet (lGet x.2 (iNat x0) []) (iNat x1) (0,0,0,0)).1,(lGet (lGet x.2 (iNat x0) []) (iNat x1) (0,0,0,0)).2.1,(lGet (lGet x.2 (iNat x0) []) (iNat x1) (0,0,0,0)).2.2.1,(lGet (lGet x.2 (iNat x0) []) (iNat x1) (0,0,0,0)).2.2.2))) (bSel (iEq (lGet (lGet x.2 (iNat x0) []) (iNat x1) (0,0,0,0)).1 1) (bOr (iEq x0 0) (bAnd (iNe (lGet (lGet x.2 (iNat x0) []) (iNat x1) (0,0,0,0)).1 9) (iGe (lGet (lGet x.2 (iNat x0) []) (iNat x1) (0,0,0,0)).2.2.2 (lLen x.2)))) (bAnd (iNe (lGet (lGet x.2 (iNat x0) []) (iNat x1) (0,0,0,0)).1 9) (iGe (lGet (lGet x.2 (iNat x0) []) (iNat x1) (0,0,0,0)).2.2.2 (lLen x.2)))))))) (fun(x1:Int)=>(iAdd .i64 x1 1)) 0) (lLen (lGet x.2 (iNat x0) []))))))) (fun(x0:Int)=>(iAdd .i64 x0 1)) 0) (lLen x.2))) (bAnd (Co (x.1,1,32)) (Co ((lLen x.2),1,4)))):=(IC.v x).trans (by kernel_rfl)
theorem lv (x):NY x=((LoopOk (fun(x0:Int)=>(bAnd (iLt x0 (lLen x.2)) (bAnd (bNot (iNe (lLen (lGet x.2 (iNat x0) [])) x.1)) (bNot (iLt (Am (fun(x1:Int)=>(bAnd (iLt x1 (lLen (lGet x.2 (iNat x0) []))) (bNot (bOr (bNot (Cc ((lGet (lGet x.2 (iNat x0) []) (iNat x1) (0,0,0,0)).1,(lGet (lGet x.2 (iNat x0) []) (iNat x1) (0,0,0,0)).2.1,(lGet (lGet x.2 (iNat x0) []) (iNat x1) (0,0,0,0)).2.2.1,(lGet (lGet x.2 (iNat x0) []) (iNat x1) (0,0,0,0)).2.2.2))) (bSel (iEq (lGet (lGet x.2 (iNat x0) []) (iNat x1) (0,0,0,0)).1 1) (bOr (iEq x0 0) (bAnd (iNe (lGet (lGet x.2 (iNat x0) []) (iNat x1) (0,0,0,0)).1 9) (iGe (lGet (lGet x.2 (iNat x0) []) (iNat x1) (0,0,0,0)).2.2.2 (lLen x.2)))) (bAnd (iNe (lGet (lGet x.2 (iNat x0) []) (iNat x1) (0,0,0,0)).1 9) (iGe (lGet (lGet x.2 (iNat x0) []) (iNat x1) (0,0,0,0)).2.2.2 (lLen x.2)))))))) (fun(x1:Int)=>(iAdd .i64 x1 1)) 0) (lLen (lGet x.2 (iNat x0) []))))))) (fun(x0:Int)=>(iAdd .i64 x0 1)) (fun(x0:Int)=>(((iLt x0 (lLen x.2))=true→((((0:Int)≤x0)∧(x0<(((List.length x.2):Int))))∧(((iNat x0)<(List.length x.2))∧(((iNe (lLen (lGet x.2 (iNat x0) [])) x.1)=true→True)∧((iNe (lLen (lGet x.2 (iNat x0) [])) x.1)=false→(LoopOk (fun(x1:Int)=>(bAnd (iLt x1 (lLen (lGet x.2 (iNat x0) []))) (bNot (bOr (bNot (Cc ((lGet (lGet x.2 (iNat x0) []) (iNat x1) (0,0,0,0)).1,(lGet (lGet x.2 (iNat x0) []) (iNat x1) (0,0,0,0)).2.1,(lGet (lGet x.2 (iNat x0) []) (iNat x1) (0,0,0,0)).2.2.1,(lGet (lGet x.2 (iNat x0) []) (iNat x1) (0,0,0,0)).2.2.2))) (bSel (iEq (lGet (lGet x.2 (iNat x0) []) (iNat x1) (0,0,0,0)).1 1) (bOr (iEq x0 0) (bAnd (iNe (lGet (lGet x.2 (iNat x0) []) (iNat x1) (0,0,0,0)).1 9) (iGe (lGet (lGet x.2 (iNat x0) []) (iNat x1) (0,0,0,0)).2.2.2 (lLen x.2)))) (bAnd (iNe (lGet (lGet x.2 (iNat x0) []) (iNat x1) (0,0,0,0)).1 9) (iGe (lGet (lGet x.2 (iNat x0) []) (iNat x1) (0,0,0,0)).2.2.2 (lLen x.2)))))))) (fun(x1:Int)=>(iAdd .i64 x1 1)) (fun(x1:Int)=>((((0:Int)≤x0)∧(x0<(((List.length x.2):Int))))∧(((iNat x0)<(List.length x.2))∧(((iLt x1 (lLen (lGet x.2 (iNat x0) [])))=true→((((0:Int)≤x0)∧(x0<(((List.length x.2):Int))))∧(((iNat x0)<(List.length x.2))∧((((0:Int)≤x1)∧(x1<(((List.length (lGet x.2 (iNat x0) [])):Int))))∧(((iNat x1)<(List.length (lGet x.2 (iNat x0) [])))∧(L3 ((lGet (lGet x.2 (iNat x0) []) (iNat x1) (0,0,0,0)).1,(lGet (lGet x.2 (iNat x0) []) (iNat x1) (0,0,0,0)).2.1,(lGet (lGet x.2 (iNat x0) []) (iNat x1) (0,0,0,0)).2.2.1,(lGet (lGet x.2 (iNat x0) []) (iNat x1) (0,0,0,0)).2.2.2)))))))∧((iLt x1 (lLen (lGet x.2 (iNat x0) [])))=false→True))))) 0))))))∧((iLt x0 (lLen x.2))=false→True))) 0)∧(((iLt (Am (fun(x0:Int)=>(bAnd (iLt x0 (lLen x.2)) (bAnd (bNot (iNe (lLen (lGet x.2 (iNat x0) [])) x.1)) (bNot (iLt (Am (fun(x1:Int)=>(bAnd (iLt x1 (lLen (lGet x.2 (iNat x0) []))) (bNot (bOr (bNot (Cc ((lGet (lGet x.2 (iNat x0) []) (iNat x1) (0,0,0,0)).1,(lGet (lGet x.2 (iNat x0) []) (iNat x1) (0,0,0,0)).2.1,(lGet (lGet x.2 (iNat x0) []) (iNat x1) (0,0,0,0)).2.2.1,(lGet (lGet x.2 (iNat x0) []) (iNat x1) (0,0,0,0)).2.2.2))) (bSel (iEq (lGet (lGet x.2 (iNat x0) []) (iNat x1) (0,0,0,0)).1 1) (bOr (iEq x0 0) (bAnd (iNe (lGet (lGet x.2 (iNat x0) []) (iNat x1) (0,0,0,0)).1 9) (iGe (lGet (lGet x.2 (iNat x0) []) (iNat x1) (0,0,0,0)).2.2.2 (lLen x.2)))) (bAnd (iNe (lGet (lGet x.2 (iNat x0) []) (iNat x1) (0,0,0,0)).1 9) (iGe (lGet (lGet x.2 (iNat x0) []) (iNat x1) (0,0,0,0)).2.2.2 (lLen x.2)))))))) (fun(x1:Int)=>(iAdd .i64 x1 1)) 0) (lLen (lGet x.2 (iNat x0) []))))))) (fun(x0:Int)=>(iAdd .i64 x0 1)) 0) (lLen x.2))=true→True)∧((iLt (Am (fun(x0:Int)=>(bAnd (iLt x0 (lLen x.2)) (bAnd (bNot (iNe (lLen (lGet x.2 (iNat x0) [])) x.1)) (bNot (iLt (Am (fun(x1:Int)=>(bAnd (iLt x1 (lLen (lGet x.2 (iNat x0) []))) (bNot (bOr (bNot (Cc ((lGet (lGet x.2 (iNat x0) []) (iNat x1) (0,0,0,0)).1,(lGet (lGet x.2 (iNat x0) []) (iNat x1) (0,0,0,0)).2.1,(lGet (lGet x.2 (iNat x0) []) (iNat x1) (0,0,0,0)).2.2.1,(lGet (lGet x.2 (iNat x0) []) (iNat x1) (0,0,0,0)).2.2.2))) (bSel (iEq (lGet (lGet x.2 (iNat x0) []) (iNat x1) (0,0,0,0)).1 1) (bOr (iEq x0 0) (bAnd (iNe (lGet (lGet x.2 (iNat x0) []) (iNat x1) (0,0,0,0)).1 9) (iGe (lGet (lGet x.2 (iNat x0) []) (iNat x1) (0,0,0,0)).2.2.2 (lLen x.2)))) (bAnd (iNe (lGet (lGet x.2 (iNat x0) []) (iNat x1) (0,0,0,0)).1 9) (iGe (lGet (lGet x.2 (iNat x0) []) (iNat x1) (0,0,0,0)).2.2.2 (lLen x.2)))))))) (fun(x1:Int)=>(iAdd .i64 x1 1)) 0) (lLen (lGet x.2 (iNat x0) []))))))) (fun(x0:Int)=>(iAdd .i64 x0 1)) 0) (lLen x.2))=false→((F6 (x.1,1,32))∧(((Co (x.1,1,32))=true→(F6 ((lLen x.2),1,4)))∧((Co (x.1,1,32))=false→True)))))):=(IC.o x).trans (by kernel_rfl)
theorem Uk (x):E6 x=(bAnd (bNot (bOr (iLt x.1 1) (bOr (iGt x.1 32) (bOr (iLt (lLen x.2) 1) (iGt (lLen x.2) 4))))) (bNot (iLt (Am (fun(x0:Int)=>(bAnd (iLt x0 (lLen x.2)) (bAnd (bNot (iNe (lLen (lGet x.2 (iNat x0) [])) x.1)) (bNot (iLt (Am (fun(x1:Int)=>(bAnd (iLt x1 (lLen (lGet x.2 (iNat x0) []))) (bNot (bOr (bNot (ED ((lGet (lGet x.2 (iNat x0) []) (iNat x1) (0,0,0,0)).1,(lGet (lGet x.2 (iNat x0) []) (iNat x1) (0,0,0,0)).2.1,(lGet (lGet x.2 (iNat x0) []) (iNat x1) (0,0,0,0)).2.2.1,(lGet (lGet x.2 (iNat x0) []) (iNat x1) (0,0,0,0)).2.2.2))) (bSel (iEq x0 0) (bOr (iEq (lGet (lGet x.2 (iNat x0) []) (iNat x1) (0,0,0,0)).1 1) (bAnd (iNe (lGet (lGet x.2 (iNat x0) []) (iNat x1) (0,0,0,0)).1 9) (iGe (lGet (lGet x.2 (iNat x0) []) (iNat x1) (0,0,0,0)).2.2.2 (lLen x.2)))) (bAnd (iNe (lGet (lGet x.2 (iNat x0) []) (iNat x1) (0,0,0,0)).1 9) (iGe (lGet (lGet x.2 (iNat x0) []) (iNat x1) (0,0,0,0)).2.2.2 (lLen x.2)))))))) (fun(x1:Int)=>(iAdd .i64 x1 1)) 0) (lLen (lGet x.2 (iNat x0) []))))))) (fun(x0:Int)=>(iAdd .i64 x0 1)) 0) (lLen x.2)))):=(GH.v x).trans (by kernel_rfl)
theorem lB (x):NZ x=(((bOr (iLt x.1 1) (bOr (iGt x.1 32) (bOr (iLt (lLen x.2) 1) (iGt (lLen x.2) 4))))=true→True)∧((bOr (iLt x.1 1) (bOr (iGt x.1 32) (bOr (iLt (lLen x.2) 1) (iGt (lLen x.2) 4))))=false→(LoopOk (fun(x0:Int)=>(bAnd (iLt x0 (lLen x.2)) (bAnd (bNot (iNe (lLen (lGet x.2 (iNat x0) [])) x.1)) (bNot (iLt (Am (fun(x1:Int)=>(bAnd (iLt x1 (lLen (lGet x.2 (iNat x0) []))) (bNot (bOr (bNot (ED ((lGet (lGet x.2 (iNat x0) []) (iNat x1) (0,0,0,0)).1,(lGet (lGet x.2 (iNat x0) []) (iNat x1) (0,0,0,0)).2.1,(lGet (lGet x.2 (iNat x0) []) (iNat x1) (0,0,0,0)).2.2.1,(lGet (lGet x.2 (iNat x0) []) (iNat x1) (0,0,0,0)).2.2.2))) (bSel (iEq x0 0) (bOr (iEq (lGet (lGet x.2 (iNat x0) []) (iNat x1) (0,0,0,0)).1 1) (bAnd (iNe (lGet (lGet x.2 (iNat x0) []) (iNat x1) (0,0,0,0)).1 9) (iGe (lGet (lGet x.2 (iNat x0) []) (iNat x1) (0,0,0,0)).2.2.2 (lLen x.2)))) (bAnd (iNe (lGet (lGet x.2 (iNat x0) []) (iNat x1) (0,0,0,0)).1 9) (iGe (lGet (lGet x.2 (iNat x0) []) (iNat x1) (0,0,0,0)).2.2.2 (lLen x.2)))))))) (fun(x1:Int)=>(iAdd .i64 x1 1)) 0) (lLen (lGet x.2 (iNat x0) []))))))) (fun(x0:Int)=>(iAdd .i64 x0 1)) (fun(x0:Int)=>(((iLt x0 (lLen x.2))=true→((((0:Int)≤x0)∧(x0<(((List.length x.2):Int))))∧(((iNat x0)<(List.length x.2))∧(((iNe (lLen (lGet x.2 (iNat x0) [])) x.1)=true→True)∧((iNe (lLen (lGet x.2 (iNat x0) [])) x.1)=false→(LoopOk (fun(x1:Int)=>(bAnd (iLt x1 (lLen (lGet x.2 (iNat x0) []))) (bNot (bOr (bNot (ED ((lGet (lGet x.2 (iNat x0) []) (iNat x1) (0,0,0,0)).1,(lGet (lGet x.2 (iNat x0) []) (iNat x1) (0,0,0,0)).2.1,(lGet (lGet x.2 (iNat x0) []) (iNat x1) (0,0,0,0)).2.2.1,(lGet (lGet x.2 (iNat x0) []) (iNat x1) (0,0,0,0)).2.2.2))) (bSel (iEq x0 0) (bOr (iEq (lGet (lGet x.2 (iNat x0) []) (iNat x1) (0,0,0,0)).1 1) (bAnd (iNe (lGet (lGet x.2 (iNat x0) []) (iNat x1) (0,0,0,0)).1 9) (iGe (lGet (lGet x.2 (iNat x0) []) (iNat x1) (0,0,0,0)).2.2.2 (lLen x.2)))) (bAnd (iNe (lGet (lGet x.2 (iNat x0) []) (iNat x1) (0,0,0,0)).1 9) (iGe (lGet (lGet x.2 (iNat x0) []) (iNat x1) (0,0,0,0)).2.2.2 (lLen x.2)))))))) (fun(x1:Int)=>(iAdd .i64 x1 1)) (fun(x1:Int)=>(((iLt x1 (lLen (lGet x.2 (iNat x0) [])))=true→((((0:Int)≤x1)∧(x1<(((List.length (lGet x.2 (iNat x0) [])):Int))))∧(((iNat x1)<(List.length (lGet x.2 (iNat x0) [])))∧(KA ((lGet (lGet x.2 (iNat x0) []) (iNat x1) (0,0,0,0)).1,(lGet (lGet x.2 (iNat x0) []) (iNat x1) (0,0,0,0)).2.1,(lGet (lGet x.2 (iNat x0) []) (iNat x1) (0,0,0,0)).2.2.1,(lGet (lGet x.2 (iNat x0) []) (iNat x1) (0,0,0,0)).2.2.2)))))∧((iLt x1 (lLen (lGet x.2 (iNat x0) [])))=false→True))) 0))))))∧((iLt x0 (lLen x.2))=false→True))) 0))):=(GH.o x).trans (by kernel_rfl)
theorem kW (x):Iv x=(bAnd (bNot (iNe (lLen x.1) (lLen x.2))) (bNot (iLt (Am (fun(x0:Int)=>(bAnd (iLt x0 (lLen x.1)) (bNot (bNot (IA (((lGet x.1 (iNat x0) (0,0,0,0)).1,(lGet x.1 (iNat x0) (0,0,0,0)).2.1,(lGet x.1 (iNat x0) (0,0,0,0)).2.2.1,(lGet x.1 (iNat x0) (0,0,0,0)).2.2.2),(lGet x.2 (iNat x0) (0,0,0,0)).1,(lGet x.2 (iNat x0) (0,0,0,0)).2.1,(lGet x.2 (iNat x0) (0,0,0,0)).2.2.1,(lGet x.2 (iNat x0) (0,0,0,0)).2.2.2)))))) (fun(x0:Int)=>(iAdd .i64 x0 1)) 0) (lLen x.1)))):=(Iy.v x).trans (by kernel_rfl)
theorem kL (x):NU x=(((iNe (lLen x.1) (lLen x.2))=true→True)∧((iNe (lLen x.1) (lLen x.2))=false→(LoopOk (fun(x0:Int)=>(bAnd (iLt x0 (lLen x.1)) (bNot (bNot (IA (((lGet x.1 (iNat x0) (0,0,0,0)).1,(lGet x.1 (iNat x0) (0,0,0,0)).2.1,(lGet x.1 (iNat x0) (0,0,0,0)).2.2.1,(lGet x.1 (iNat x0) (0,0,0,0)).2.2.2),(lGet x.2 (iNat x0) (0,0,0,0)).1,(lGet x.2 (iNat x0) (0,0,0,0)).2.1,(lGet x.2 (iNat x0) (0,0,0,0)).2.2.1,(lGet x.2 (iNat x0) (0,0,0,0)).2.2.2)))))) (fun(x0:Int)=>(iAdd .i64 x0 1)) (fun(x0:Int)=>(((iLt x0 (lLen x.1))=true→((((0:Int)≤x0)∧(x0<(((List.length x.1):Int))))∧(((iNat x0)<(List.length x.1))∧((((0:Int)≤x0)∧(x0<(((List.length x.2):Int))))∧(((iNat x0)<(List.length x.2))∧(N3 (((lGet x.1 (iNat x0) (0,0,0,0)).1,(lGet x.1 (iNat x0) (0,0,0,0)).2.1,(lGet x.1 (iNat x0) (0,0,0,0)).2.2.1,(lGet x.1 (iNat x0) (0,0,0,0)).2.2.2),(lGet x.2 (iNat x0) (0,0,0,0)).1,(lGet x.2 (iNat x0) (0,0,0,0)).2.1,(lGet x.2 (iNat x0) (0,0,0,0)).2.2.1,(lGet x.2 (iNat x0) (0,0,0,0)).2.2.2)))))))∧((iLt x0 (lLen x.1))=false→True))) 0))):=(Iy.o x).trans (by kernel_rfl)
theorem kx (x):QK x=(bAnd (bNot (iNe (lLen x.1) (lLen x.2))) (bNot (iLt (Am (fun(x0:Int)=>(bAnd (iLt x0 (lLen x.1)) (bNot (bNot (Iv ((lGet x.1 (iNat x0) []),(lGet x.2 (iNat x0) []))))))) (fun(x0:Int)=>(iAdd .i64 x0 1)) 0) (lLen x.1)))):=(Is.v x).trans (by kernel_rfl)
theorem kh (x):QE x=(((iNe (lLen x.1) (lLen x.2))=true→True)∧((iNe (lLen x.1) (lLen x.2))=false→(LoopOk (fun(x0:Int)=>(bAnd (iLt x0 (lLen x.1)) (bNot (bNot (Iv ((lGet x.1 (iNat x0) []),(lGet x.2 (iNat x0) []))))))) (fun(x0:Int)=>(iAdd .i64 x0 1)) (fun(x0:Int)=>(((iLt x0 (lLen x.1))=true→((((0:Int)≤x0)∧(x0<(((List.length x.1):Int))))∧(((iNat x0)<(List.length x.1))∧((((0:Int)≤x0)∧(x0<(((List.length x.2):Int))))∧(((iNat x0)<(List.length x.2))∧(NU ((lGet x.1 (iNat x0) []),(lGet x.2 (iNat x0) []))))))))∧((iLt x0 (lLen x.1))=false→True))) 0))):=(Is.o x).trans (by kernel_rfl)
theorem lS (x):IB x=(bAnd (bNot (iNe x.1.1 x.2.1)) (bNot (bNot (QK (x.1.2,x.2.2))))):=(GJ.v x).trans (by kernel_rfl)
theorem lQ (x):N2 x=(((iNe x.1.1 x.2.1)=true→True)∧((iNe x.1.1 x.2.1)=false→(QE (x.1.2,x.2.2)))):=(GJ.o x).trans (by kernel_rfl)
attribute [irreducible] KE NY E6 NZ Iv NU QK QE IB N2
end
end
end Go.Ag
