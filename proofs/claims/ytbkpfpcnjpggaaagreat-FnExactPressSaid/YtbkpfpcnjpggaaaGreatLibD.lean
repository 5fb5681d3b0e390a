/- Part 4 of what FnExactPress needs. No conditions. -/
import Derived.Test.YtbkpfpcnjpggaaaGreatLibC
namespace Go.Ag
set_option linter.unusedSimpArgs false
set_option linter.unusedVariables false
noncomputable section
section
variable {h0:Ab} {ω0 ω:Nat->W} {ρ ρ':Nat->Nat} {st f4 st1:PS} {us u_:St} {X X':Cz}
theorem RS.fzArgs:∀(args:List T_) {ω:Nat->W} {st:PS},RS h0 ω0 ω ρ st us X0->∃ω',RS h0 ω0 ω' ρ (Ag.fzArgs args st) us X0
 |[],ω,st,R=>⟨ω,R⟩
 | x::r,ω,st,R=>by
   obtain⟨ω1,g⟩:=R.fz0 x;obtain⟨ω2,b⟩:=g.put none;exact RS.fzArgs r b
theorem RS.tup0(R:RS h0 ω0 ω ρ st us X0):RS h0 ω0 ω ρ st us (X1 (.f7 []) (.f7 [])):=by
 have e:∀p,(PV.f7 []).S_ p= .fl .undef:=by
  intro p
  match p with
  |[]=>rfl
  |[_]=>rfl
  |[i,c]=>cases c<;>rfl
  |_::_::_::_=>rfl
 exact R.handx ⟨[],rfl,rfl,λi=>by simp[Aa,Shp1]⟩ (λp=>by rw[e];exact .undef _ _) (λp i g b=>by rw[e];simp[PV.q])
theorem kB:∀l:List PV,(PV.ownrL l).length=l.length
 |[]=>rfl
 |_::r=>by simp only[PV.ownrL,A0,kB r]
theorem NL:∀l:List (List PV),(PV.ownrE l).length=l.length
 |[]=>rfl
 |_::r=>by simp only[PV.ownrE,A0,NL r]
theorem kK:∀a b:List PV,PV.ownrL (a++b)=PV.ownrL a++PV.ownrL b
 |[],_=>rfl
 |_::r,b=>by simp only[Dn,PV.ownrL,kK r b]
theorem ZZ:∀l:List (List PV),(PV.ownrE l).flatten=PV.ownrL l.flatten
 |[]=>rfl
 |e::r=>by simp only[PV.ownrE,HM,ZZ r,kK]
theorem Z9:∀(l:List PV) (k:Nat),Aa (PV.ownrL l) k=(Aa l k).ownr
 |[],_=>rfl
 |_::_,0=>rfl
 |_::r,k+1=>Z9 r k
theorem cE{w:Nat}:∀ {l:List (List PV)},(∀e∈l,e.length=w)->∀e∈PV.ownrE l,e.length=w
 |[],_,_,h=>by cases h
 | a::r,hw,e,h=>by
   simp only[PV.ownrE,Cu]at h;rcases h with rfl|h
   ·rw[kB];exact hw a (by simp)
   exact cE (λe h=>hw e (by simp[h])) e h
theorem ZhS{H:Ab}{v:PV}{u:V}{m:Md}(r:RC H ω m v u):m= .fz->RC H ω .fz v.ownr u:=by
 induction r with
 |undef m u=>intro _;exact .undef _ _
 |v m x s=>intro _;exact .v _ _ s
 |nil m q=>intro _;exact .nil _ _
 | sl m q es l o n b hb hk hc f9 hn hw hle hr ih=>
   rintro rfl;refine .sl _ _ _ l o n b hb hk hc (λh=>by cases h) (by rw[NL];exact hn) (cE hw) (by rw[NL];exact hle) λk g=>?_;rw[NL]at g;rw[ZZ,Z9];exact ih k g rfl
 | ep m q es j o' l o p b hb hk hq hc hw hle hr hp ih=>
   rintro rfl;exact .ep _ _ _ _ _ l o p b hb hk hq hc hw hle hr hp
 |box m i o=>intro _;exact .box _ _ _
 |ptr hd p i o l t=>intro h;cases h
theorem nf{H:Ab}{hd:Hd}{p:List Nat}{v:PV}{u:V}(r:RC H ω (.at hd p) v u):RC H ω (.at hd p) v.nrm1 u:=by
 unfold PV.nrm1;split
 ·rename_i es;cases r with
  |nil=>exact .nil _ _
  | sl _ _ _ l o n b hb hk hc f9 hn hw hle hr=>
    refine .sl _ _ _ l o n b hb hk hc (λ_ h=>by simp at h) (by rw[NL];exact hn) (cE hw) (by rw[NL];exact hle) λk g=>?_;rw[NL]at g;rw[ZZ,Z9];exact ZhS (hr k g) rfl
 exact r
theorem mn:∀(l:List PV) (k:Nat),Aa (PV.nrmA l) k=(Aa l k).nrm1
 |[],_=>rfl
 |_::_,0=>rfl
 |_::r,k+1=>mn r k
theorem mb:∀l:List PV,(PV.nrmA l).length=l.length
 |[]=>rfl
 |_::r=>by simp only[PV.nrmA,A0,mb r]
theorem nU(v:PV):v.nrm1.q=v.q:=by
 unfold PV.nrm1;split<;>rfl
theorem WB(v:PV)(p:List Nat):v.nrm.S_ p=(v.S_ p).nrm1\/v.nrm.S_ p=v.S_ p:=by
 cases v with
 | agg cs=>
   match p with
   |[c]=>exact .inl (mn cs c)
   |[]=>exact .inr rfl
   |_::_::_=>exact .inr rfl
 | sl q es=>
   match p with
   |[0]=>cases q<;>exact .inl rfl
   |[]=>cases q<;>exact .inr rfl
   |(_+1)::_=>cases q<;>exact .inr rfl
   |0::_::_=>cases q<;>exact .inr rfl
 |_=>exact .inr rfl
theorem m0{v:PV}{u:V}(hs:A6 v u):A6 v.nrm u:=by
 cases v with
 |agg cs=>obtain⟨ws,h1,b⟩:=hs;exact⟨ws,h1,by rw[mb];exact b⟩
 |f7 g=>exact hs
 |sl q es=>cases q<;>exact hs
 |_=>exact hs
theorem Xc:∀(l:List PV) (t:Nat),Aa (l.map PV.nrm) t=(Aa l t).nrm
 |[],_=>rfl
 |_::_,0=>rfl
 |_::r,t+1=>Xc r t
theorem RS.nmS{X:Cz}(R:RS h0 ω0 ω ρ st us X):RS h0 ω0 ω ρ { st with sl:=st.sl.map PV.nrm } us X:=by
 have:=RS.ren (f4:={ st with sl:=st.sl.map PV.nrm }) (u_:=us) (X':=X) R Ren.id_ok (λhd p i q e=>by simp[Ren.id]at e;exact e.1) (λf_ p=>?_) rfl (λt=>by rw[Xc];exact m0 (R.sh t)) R.shx (by rw[Bd];exact R.lsl) R.lbx R.lb R.cb R.ch rfl (λ_=>rfl)
 ·rwa [Du]at this
 cases f_ with
 |x i=>exact .inl (Bu rfl)
 | s t=>
   refine .inr ?_;rw[Du];refine⟨λi j g=>?_,?_⟩
   ·show ((Aa (st.sl.map PV.nrm) t).S_ p).q≠_;rw[Xc];rcases WB (Aa st.sl t) p with e|e
    ·rw[e,nU];exact R.nx (.s t) p i j g
    rw[e];exact R.nx (.s t) p i j g
   show RC us.hp ω (.at (.s t) p) ((Aa (st.sl.map PV.nrm) t).S_ p) ((get us.sl t).S_ p);rw[Xc];rcases WB (Aa st.sl t) p with e|e
   ·rw[e];exact nf (R.core.rc (.s t) p)
   rw[e];exact R.core.rc (.s t) p
 |b t=>exact .inl (Bu rfl)
 |h t=>exact .inl (Bu rfl)
theorem RS.nm{v:PV}{u:V}(R:RS h0 ω0 ω ρ st us (X1 v u)):RS h0 ω0 ω ρ st us (X1 v.nrm u):=by
 have hs:A6 v u:=R.shx 0;have z:∀p,RC us.hp ω (.at (.x 0) p) (v.S_ p) (u.S_ p):=λp=>R.core.rc (.x 0) p;have y:∀p i j g,(v.S_ p).q≠some (.g_ (.x i) j g):=λp i j g=>R.nx (.x 0) p i j g;have n:A6 v.nrm u:=m0 hs;have:=RS.ren (f4:=st) (u_:=us) (X':=X1 v.nrm u) R Ren.id_ok (λhd p i q e=>by simp[Ren.id]at e;exact e.1) (λf_ p=>?_) rfl R.sh (λi=>?_) R.lsl R.lbx R.lb R.cb R.ch rfl (λ_=>rfl)
 ·rwa [Du]at this
 ·cases f_ with
  | x i =>
    by_cases hi:i=0
    ·subst hi;refine .inr ?_;rw[Du];refine⟨λi j g=>?_,?_⟩
     ·show (v.nrm.S_ p).q≠_;rcases WB v p with e|e
      ·rw[e,nU];exact y p i j g
      rw[e];exact y p i j g
     show RC us.hp ω (.at (.x 0) p) (v.nrm.S_ p) (u.S_ p);rcases WB v p with e|e
     ·rw[e];exact nf (z p)
     rw[e];exact z p
    exact .inl (Bu (by simp[Aj,X1,hi]))
  |s t=>exact .inl (Bu rfl)
  |b t=>exact .inl (Bu rfl)
  |h t=>exact .inl (Bu rfl)
 by_cases hi:i=0
 ·subst hi;exact n
 rw[DW _ _ i hi];exact Bf _
theorem ZbZ{f:Bc}{p:Dd}(hs:JJ f p)(R:RS h0 ω0 ω ρ st us X0){args:List T_}{d:Option Nat}{k:PS->Prop}{K:St->Prop}(A:∀st us ω ρ,RS h0 ω0 ω ρ st us X0->k st->K us)(e:Td p args d k st):(args.map (·.ev us.sl)).all V.ok1=true/\f (args.map (·.ev us.sl)) us.hp λr h=>K (St.put { us with hp:=h } d r):=by
 obtain⟨t,e⟩:=e;refine⟨Sq R t,?_⟩;split at e
 ·obtain⟨F,e⟩:=e;refine hs us.hp _ ρ _ _ st.hp _ _ (R.enterP t F).nmS (λl hd p e=>?_) e λu h' r G ω' ρ' n z g=>?_
  ·unfold ωp at e;split at e
   ·cases e
   ·rename_i i q _;cases e;exact⟨i,rfl⟩
   ·cases e
   cases e
  obtain⟨D,b,j⟩:=n;obtain⟨ω'',ρ'',y⟩:=R.leaveP z g b D;obtain⟨ω3,x⟩:=y.put d;exact A _ _ _ _ x j
 rename_i b;have b:(args.map (·.t7 st.sl)).any PV.q_=false:=by simpa using b
 have s:=R.enter t b (!((args.map (·.t7 st.sl)).all λv=>!v.hold)) (λh=>by simpa using h);refine hs us.hp _ ρ _ _ [] _ _ s.nmS (λl hd p e=>?_) e λu h' r G ω' ρ' n z g=>?_
 ·exfalso;unfold ωc at e;split at e
  ·cases e
  ·split at e<;>cases e
  cases e
 obtain⟨C,j⟩:=n;obtain⟨ω'',ρ'',y⟩:=R.leave z g (λhd=>by
  have:((args.map (·.t7 st.sl)).all λv=>!v.hold)=false:=(by simpa using hd);rw[this]at C;simpa using C)
 obtain⟨ω3,x⟩:=y.put d;exact A _ _ _ _ x j
theorem ZbH{f:Bc}{p:Dd}(hs:JJ f p)(R:RS h0 ω0 ω ρ st us X0){args:List T_}{d:Option Nat}{k:PS->Prop}{K:St->Prop}(y:∀st us ω ρ,RS h0 ω0 ω ρ st us X0->k st->K us)(e:cW p args d k st):(args.map (·.ev us.sl)).all V.ok1=true/\Qz us.bx .all f (args.map (·.ev us.sl)) us.hp λr h=>K (St.put { us with hp:=h } d r):=by
 obtain⟨b,q,e⟩:=e;refine⟨Sq R q,_,?_,λr h' t=>t⟩;rw[Ae (by simp[b])]at e;have j:=R.enter q b (!((args.map (·.t7 st.sl)).all λv=>!v.hold)) (λh=>by simpa using h);refine hs us.hp _ ρ _ _ [] _ _ j.nmS (λl hd p e=>?_) e λu h' r D ω' ρ' z s g=>?_
 ·exfalso;unfold ωc at e;split at e
  ·cases e
  ·split at e<;>cases e
  cases e
 obtain⟨n,i⟩:=z;obtain⟨ω'',ρ'',C⟩:=R.leave s g (λhd=>by
  have:((args.map (·.t7 st.sl)).all λv=>!v.hold)=false:=(by simpa using hd);rw[this]at n;simpa using n)
 obtain⟨ω3,A⟩:=C.put d;refine⟨λl x=>(s.fr.old l x ?_).1,y _ _ _ _ A i⟩;unfold ωc;split
 ·exact .inl rfl
 ·split<;>simp
 exact .inr rfl
theorem Zbl{i c:Nat}{f:Bc}{p:Dd}(hs:JJ f p)(R:RS h0 ω0 ω ρ st us X0){args:List T_}{d:Option Nat}{k:PS->Prop}{K:St->Prop}(z:∀st us ω ρ,RS h0 ω0 ω ρ st us X0->k st->K us)(e:oX i c p args d k st):(args.map (·.ev us.sl)).all V.ok1=true/\Qz us.bx (.box i c) f (args.map (·.ev us.sl)) us.hp λr h=>K (St.put { us with hp:=h } d r):=by
 obtain⟨⟨hp,es,y⟩,A,e⟩:=e;refine⟨Sq R A,_,?_,λr h' D=>D⟩;rw[Ac hp]at e;obtain⟨G,e⟩:=e;refine hs us.hp _ ρ _ _ st.hp _ _ (R.enterP A G).nmS (λl hd p e=>?_) e λu h' r O ω' ρ' L C g=>?_
 ·unfold ωp at e;split at e
  ·cases e
  ·rename_i i q _;cases e;exact⟨i,rfl⟩
  ·cases e
  cases e
 obtain⟨F,t,x⟩:=L;obtain⟨ω'',ρ'',N⟩:=R.leaveP C g t F;obtain⟨ω3,M⟩:=N.put d;refine⟨λl o n s J=>?_,z _ _ _ _ M x⟩;have r:=R.core.rc (.b i) [c];have j:Aa (Aq st.bx i) c= .sl .own es:=y;simp only[Aj,Bh,j,s]at r;cases r with
 |sl _ _ _ _ _ _ b h1 z I=>exact(C.fr.old l J (.inr (by simp[ωp,I.1]))).1
inductive Ob where
 |c (f:Bc) (p:Dd)|m (f:Bc) (M:PMk)|t (f:Bc) (T:PTk)
def Ob.sound:Ob->Prop
 |.c f p=>JJ f p|.m f M=>Lz f M|.t f T=>df f T
def POp.t8:POp->List Ob
 |.a _ _=>[]|.aw _ _ _=>[]|.call _ f p _=>[.c f p]|.callk _ f p _=>[.c f p]|.callv _ f p _ _ _=>[.c f p]|.mark f M _ _=>[.m f M]|.tk f T _ _=>[.t f T]|.fz _=>[]|.clm _ _ _=>[]|.fzb _ _=>[]
def Oh:List POper->List Ob
 |[]=>[]|o::r=>o.op.t8++Oh r
def PCode.t8:PCode->List Ob
 |.skip=>[]|.region ops=>Oh ops|.regionU ops=>Oh ops|.seq _ a b=>a.t8++b.t8|.cond _ a b=>a.t8++b.t8|.block _ a=>a.t8|.scope a=>a.t8|.loop _ a=>a.t8|.exit _=>[]|.ret=>[]
def AllP:List Ob->Prop
 |[]=>True|o::r=>o.sound/\AllP r
theorem AllP.app:∀ {a b:List Ob},AllP (a++b)->AllP a/\AllP b
 |[],b,h=>⟨trivial,h⟩
 |_::_,b,⟨h1,h2⟩=>⟨⟨h1,(AllP.app h2).1⟩,(AllP.app h2).2⟩
theorem n6{H:Ab}{w:Nat}{v v':PV}(e:FB w v=some v'){hd:Hd}{p:List Nat}{u:V}(r:RC H ω (.at hd p) v u):RC H ω (.at hd p) v' u:=by
 unfold FB at e;split at e
 ·rename_i es;split at e
  ·rename_i i;cases e;cases r with
   |nil=>exact .nil _ _
   | sl _ _ _ l o n b h1 hk hc f9 hn hw' hle hr=>
     obtain⟨j,g⟩:=Qw _ (f9 rfl (.inl rfl));exact .sl _ _ _ _ _ _ b h1 hk ⟨hc.1,hc.2.1,hc.2.2,λh0=>by rw[<- hw' j g];exact(IE w es).1 (i.resolve_left (by omega)) j g⟩ (λ_ h=>by simp at h) hn hw' hle hr
  cases e
 ·split at e
  ·rename_i w' es i;cases e;cases r with
   |nil=>exact .nil _ _
   | sl _ _ _ l o n b h1 hk hc f9 hn hw' hle hr=>
     exact .sl _ _ _ _ _ _ b h1 hk ⟨hc.1,hc.2.1,hc.2.2.1,λh0=>(hc.2.2.2 (by rcases i with h|h<;>omega)).trans (i.resolve_left (by omega))⟩ (λ_ h=>by simp at h) hn hw' hle hr
  cases e
 cases e
theorem ox{w:Nat}{v v':PV}(e:FB w v=some v'):(∃q es,v= .sl q es)/\∃w es,v'= .sl (.i6 w) es:=by
 unfold FB at e;split at e
 ·split at e
  ·cases e;exact⟨⟨_,_,rfl⟩,⟨_,_,rfl⟩⟩
  cases e
 ·split at e
  ·cases e;exact⟨⟨_,_,rfl⟩,⟨_,_,rfl⟩⟩
  cases e
 cases e
theorem oO{H:Ab}:∀(ws:List (Nat×Nat)) {l l':List PV},OP ws l=some l'->l'.length=l.length/\(∀hd c u,RC H ω (.at hd [c]) (Aa l c) u->RC H ω (.at hd [c]) (Aa l' c) u)/\∀c,(∀i g b,(Aa l c).q≠some (.g_ (.x i) g b))->∀i g b,(Aa l' c).q≠some (.g_ (.x i) g b)
 |[],l,l',e=>by cases e;exact⟨rfl,λ_ _ _ h=>h,λ_ h=>h⟩
 | (c0,w)::r,l,l',e=>by
   unfold OP at e;split at e
   ·rename_i v j;obtain⟨h1,t,s⟩:=oO r e;refine⟨by rw[h1,Gg],λhd c u h=>t hd c u ?_,λc h=>s c ?_⟩
    ·rw[D9];split
     ·rename_i n;rw[n.1]at h;rw[n.1];exact n6 j h
     exact h
    rw[D9];split
    ·obtain⟨_,w,es,y⟩:=ox j;rw[y];intro i g b;simp[PV.q]
    exact h
   cases e
theorem RS.wk{v v':PV}{u:V}(R:RS h0 ω0 ω ρ st us (X1 v u)){ws:List (Nat×Nat)}(e:Fe ws v=some v'):∃ω',RS h0 ω0 ω' ρ st us (X1 v' u):=by
 have hs:A6 v u:=R.shx 0;have D:∀p,RC us.hp ω (.at (.x 0) p) (v.S_ p) (u.S_ p):=λp=>R.core.rc (.x 0) p;have F:∀p i z y,(v.S_ p).q≠some (.g_ (.x i) z y):=λp i z y=>R.nx (.x 0) p i z y;have n:A6 v' u/\(∀p,RC us.hp ω (.at (.x 0) p) (v'.S_ p) (u.S_ p))/\∀p,Cm (v'.S_ p):=by
  have g:∀ {w:Nat},FB w v=some v'->A6 v' u/\(∀p,RC us.hp ω (.at (.x 0) p) (v'.S_ p) (u.S_ p))/\∀p,Cm (v'.S_ p):=by
   intro w e;obtain⟨⟨q,es,O⟩,U,M,N⟩:=ox e;have h0:=D [0];have C:=hs;subst O;have A:(∀us,u≠.agg us)/\∀us,u≠.f7 us:=C;have h0:RC us.hp ω (.at (.x 0) [0]) (.sl q es) (u.S_ [0]):=h0;have h1:=n6 e h0;subst N;refine⟨A,λp=>?_,λp=>?_⟩
   ·match p with
    |[0]=>exact h1
    |[]=>exact .undef _ _
    |(_+1)::_=>exact .undef _ _
    |0::_::_=>exact .undef _ _
   intro i z y
   match p with
   |[0]=>simp[PV.S_,PV.q]
   |[]=>simp[PV.S_,PV.q]
   |(_+1)::_=>simp[PV.S_,PV.q]
   |0::_::_=>simp[PV.S_,PV.q]
  cases v with
  | agg cs=>
    simp only[Fe,B9]at e;obtain⟨l',e,rfl⟩:=e;obtain⟨u_,h1,G⟩:=hs;subst h1;obtain⟨L,J,I⟩:=oO (H:=us.hp) (ω:=ω) ws e;refine⟨⟨u_,rfl,by rw[G,L]⟩,λp=>?_,λp=>?_⟩
    ·match p with
     |[c]=>exact J _ c _ (D [c])
     |[]=>exact .undef _ _
     |_::_::_=>exact .undef _ _
    match p with
    |[c]=>exact I c (F [c])
    |[]=>intro i z y;simp[PV.S_,PV.q]
    |_::_::_=>intro i z y;simp[PV.S_,PV.q]
  |f7 Y=>simp[Fe]at e
  |fl x=>simp only[Fe]at e;split at e<;>first|exact g e|cases e
  |sl q es=>simp only[Fe]at e;split at e<;>first|exact g e|cases e
  |ep q es j o=>simp only[Fe]at e;split at e<;>first|exact g e|cases e
  |box i o=>simp only[Fe]at e;split at e<;>first|exact g e|cases e
  |ptr i o=>simp only[Fe]at e;split at e<;>first|exact g e|cases e
 refine⟨ω,?_⟩;have:=RS.ren (f4:=st) (u_:=us) (X':=X1 v' u) R Ren.id_ok (λhd p i q e=>by simp[Ren.id]at e;exact e.1) (λf_ p=>?_) rfl R.sh (λi=>?_) R.lsl R.lbx R.lb R.cb R.ch rfl (λ_=>rfl)
 ·rwa [Du]at this
 ·cases f_ with
  | x i=>
    by_cases hi:i=0
    ·subst hi;refine .inr ?_;rw[Du];exact⟨n.2.2 p,n.2.1 p⟩
    exact .inl (Bu (by simp[Aj,X1,hi]))
  |s t=>exact .inl (Bu rfl)
  |b t=>exact .inl (Bu rfl)
  |h t=>exact .inl (Bu rfl)
 by_cases hi:i=0
 ·subst hi;exact n.1
 rw[DW _ _ i hi];exact Bf _
theorem kG(R:RS h0 ω0 ω ρ st us X0){o:POp}(q:AllP o.t8){d:Option Nat}{k:PS->Prop}{K:St->Prop}(g:∀st us ω ρ,RS h0 ω0 ω ρ st us X0->k st->K us)(e:CE o d k st):AK o.er d K us:=by
 cases o with
 | a m o=>
   simp only[CE]at e;cases hs:BA m o st with
   |none=>rw[hs]at e;exact e.elim
   | some r=>
     obtain⟨v,C⟩:=r;rw[hs]at e;obtain⟨u,bx,hp,ω',ρ',h1,j⟩:=Wc R hs;obtain⟨ω2,n⟩:=j.put d;have:=g _ _ _ _ n e;simp only[POp.er];cases o<;>first|(simp only[AK,h1];exact this)|(simp[Af]at h1)
 | aw ws m o=>
   simp only[CE]at e;cases hs:BA m o st with
   |none=>rw[hs]at e;exact e.elim
   | some r=>
     obtain⟨v,C⟩:=r;rw[hs]at e;simp only at e;cases F:Fe ws v with
     |none=>rw[F]at e;exact e.elim
     | some v'=>
       rw[F]at e;obtain⟨u,bx,hp,ω',ρ',h1,j⟩:=Wc R hs;obtain⟨ω1,j⟩:=j.wk F;obtain⟨ω2,n⟩:=j.put d;have:=g _ _ _ _ n e;simp only[POp.er];cases o<;>first|(simp only[AK,h1];exact this)|(simp[Af]at h1)
 | call m f p args=>
   simp only[CE]at e;simp only[POp.er,AK];have z:∃ω',RS h0 ω0 ω' ρ (if m then Ag.fzArgs args st else st) us X0:=by
    cases m with
    |true=>exact RS.fzArgs args R
    |false=>exact⟨ω,R⟩
   obtain⟨ω1,b⟩:=z;exact ZbZ q.1 b g e
 | callk m f p args=>
   simp only[CE]at e;simp only[POp.er,AK];have z:∃ω',RS h0 ω0 ω' ρ (if m then Ag.fzArgs args st else st) us X0:=by
    cases m with
    |true=>exact RS.fzArgs args R
    |false=>exact⟨ω,R⟩
   obtain⟨ω1,b⟩:=z;exact ZbH q.1 b g e
 | callv m f p args i c=>
   simp only[CE]at e;simp only[POp.er,AK];have z:∃ω',RS h0 ω0 ω' ρ (if m then Ag.fzArgs args st else st) us X0:=by
    cases m with
    |true=>exact RS.fzArgs args R
    |false=>exact⟨ω,R⟩
   obtain⟨ω1,b⟩:=z;exact Zbl q.1 b g e
 | mark f M x y=>
   simp only[CE]at e;simp only[POp.er,AK];exact ZbS q.1 R g e
 | tk f T x y=>
   simp only[CE]at e;simp only[POp.er,AK];refine Zep q.1 R g (λI G=>?_) e;have A:=(R.enter (args:=[x]) (by simp only[Cf,MM,HH,I];rfl) (by simp[G]) true (λh=>by cases h)).nmS;exact⟨_,λp=>A.core.rc (.s 0) p,A.sh 0⟩
 | fz x=>
   simp only[CE]at e;simp only[POp.er,AK,Af,o_.clears];obtain⟨ω1,b⟩:=R.fz0 x;obtain⟨ω2,J⟩:=b.nm.put d;exact g _ _ _ _ J e
 | fzb a o=>
   simp only[CE]at e;cases D:Yh (a.t7 st.sl) st with
   |none=>rw[D]at e;exact e.elim
   | some st1=>
     rw[D]at e;simp only at e;obtain⟨ω1,b⟩:=ZcN R D;cases hs:BA false o st1 with
     |none=>rw[hs]at e;exact e.elim
     | some r=>
       obtain⟨v,C⟩:=r;rw[hs]at e;obtain⟨u,bx,hp,ω',ρ',h1,j⟩:=Wc b hs;obtain⟨ω2,n⟩:=j.put d;have:=g _ _ _ _ n e;simp only[POp.er];cases o<;>first|(simp only[AK,h1];exact this)|(simp[Af]at h1)
 | clm a t o=>
   simp only[CE]at e;obtain⟨ω1,ρ1,st1,b,e⟩:=Zda R e;cases hs:BA false o st1 with
   |none=>rw[hs]at e;exact e.elim
   | some r=>
     obtain⟨v,C⟩:=r;rw[hs]at e;obtain⟨u,bx,hp,ω',ρ',h1,j⟩:=Wc b hs;obtain⟨ω2,n⟩:=j.put d;have:=g _ _ _ _ n e;simp only[POp.er];cases o<;>first|(simp only[AK,h1];exact this)|(simp[Af]at h1)
theorem Wh:∀(ops:List POper) {ω:Nat->W} {ρ:Nat->Nat} {st:PS} {us:St},AllP (Oh ops)->RS h0 ω0 ω ρ st us X0->∀ {k:PS->Prop} {K:St->Prop},(∀st us ω ρ,RS h0 ω0 ω ρ st us X0->k st->K us)->J1 ops k st->BI (ops.map POper.er) K us
 |[],ω,ρ,st,us,_,R,k,K,hk,e=>hk _ _ _ _ R e
 | o :: r,ω,ρ,st,us,ho,R,k,K,hk,e=>by
   obtain⟨q,s⟩:=ho.app;have i:∀st us ω ρ,RS h0 ω0 ω ρ st us X0->J1 r k st->BI (r.map POper.er) K us:=λst us ω ρ R e=>Wh r s R hk e;simp only[Cf,BI,J1]at e ⊢;unfold HU at e;unfold Cr;simp only[POper.er];cases z:o.guard with
   |none=>rw[z]at e;exact kG R q i e
   | some g=>
     obtain⟨g,y⟩:=g;rw[z]at e;simp only at e ⊢;have j:J1 r k (st.put o.dst (.f7 []))->BI (r.map POper.er) K (us.put o.dst (.f7 [])):=λe=>by
      obtain⟨ω2,C⟩:=R.tup0.put o.dst;exact i _ _ _ _ C e
     split at e
     ·rename_i b u;have:=(R.ev_fl (x:=.t g) u (by simp)).1;simp only[T_.ev]at this;rw[this];simp only;split at e
      ·rename_i n;rw[Ac n];exact kG R q i e
      rename_i n;rw[Ae n];exact j e
     ·rename_i u;obtain⟨ws,h1,A,_⟩:=R.ev_tup u;have:ws=[]:=Df (by simpa using A);subst this;rw[h1];exact j e
     exact e.elim
theorem jl{n:PS->Prop}{N:St->Prop}{k:Gt}{K:Cs}(g:∀st us ω ρ,RS h0 ω0 ω ρ st us X0->n st->N us)(b:∀e st us ω ρ,RS h0 ω0 ω ρ st us X0->k e st->K e us):∀e st us ω ρ,RS h0 ω0 ω ρ st us X0->ed n k e st->F2 N K e us:=by
 intro e st us ω ρ R h;cases e with
 |normal=>exact g _ _ _ _ R h
 |exit i=>exact b _ _ _ _ _ R h
 |ret=>exact b _ _ _ _ _ R h
theorem Zde{p:POper}(hp:p.plain=true){K j:PS->Prop}(h:∀st,K st->j st){st:PS}(e:HU p K st):HU p j st:=by
 have b:∀ {st:PS},CE p.op p.dst K st->CE p.op p.dst j st:=by
  intro st;unfold POper.plain at hp;split at hp
  ·rename_i m o i;rw[i];simp only[CE];split
   ·exact h _
   exact id
  ·rename_i ws m o i;rw[i];simp only[CE];split
   ·split
    ·exact h _
    exact id
   exact id
  cases hp
 unfold HU at *;split at e
 ·exact b e
 split at e
 ·split at e
  ·rename_i g;rw[Ac g];exact b e
  rename_i g;rw[Ae g];exact h _ e
 ·exact h _ e
 exact e.elim
theorem AllP.cat:∀ {a b:List Ob},AllP a->AllP b->AllP (a++b)
 |[],_,_,h=>h
 |_::_,_,h,h'=>⟨h.1,AllP.cat h.2 h'⟩
theorem ZfK{p q:POper}(h:p.canU q=true):p.op.t8=[]/\q.op.t8=[]:=by
 unfold POper.canU at h;split at h
 ·rename_i h1 b _ _ _ _;rw[h1,b];exact⟨rfl,rfl⟩
 cases h
theorem ml:∀ {ops:List POper},TB ops=true->AllP (Oh ops)->∀ {i:List a_},Ou (ops.map POper.er)=some i->∃b,b.map POper.er=i/\AllP (Oh b)/\∀st (k:PS->Prop),J1 ops k st->J1 b k st
 |[],_,_,_,h=>by cases h
 |[_],_,_,_,h=>by cases h
 | p :: q::r,hp,ho,i,h=>by
   unfold TB at hp;simp only[Cf]at h;unfold Ou at h;split at hp
   ·rename_i j;rw[Ac j]at h;cases h;refine⟨q::p::r,rfl,?_,λst k e=>Zdm hp e⟩;obtain⟨h1,u⟩:=ZfK hp;simp only[Oh,h1,u,CJ]at ho ⊢;exact ho
   rename_i j;rw[Ae j]at h;rw[Ai]at hp;simp only[B9]at h;obtain⟨l',h1,rfl⟩:=h;have g:=ho.app;obtain⟨n,rfl,t,s⟩:=ml (ops:=q::r) hp.2 g.2 h1;exact⟨p::n,rfl,AllP.cat g.1 t,λst k e=>Zde hp.1 (λf4 x=>s f4 k x) e⟩
theorem Mp:∀(c:PCode),AllP c.t8->∀ {k:Gt} {K:Cs},(∀e st us ω ρ,RS h0 ω0 ω ρ st us X0->k e st->K e us)->∀ {st:PS} {us:St} {ω:Nat->W} {ρ:Nat->Nat},RS h0 ω0 ω ρ st us X0->Gy c k st->BT c.er K us
 |.skip,_,k,K,hk,st,us,ω,ρ,R,e=>hk _ _ _ _ _ R e
 |.region ops,ho,k,K,hk,st,us,ω,ρ,R,e=>Wh ops ho R (λst us ω ρ R e=>hk .normal _ _ _ _ R e) e
 | .regionU ops,ho,k,K,hk,st,us,ω,ρ,R,e=>by
   refine⟨Wh ops ho R (λst us ω ρ R e=>hk .normal _ _ _ _ R e) e.2,λF g=>?_⟩;obtain⟨s,rfl,x,u⟩:=ml e.1 ho g;exact Wh s x R (λst us ω ρ R e=>hk .normal _ _ _ _ R e) (u _ _ e.2)
 | .seq l a b,ho,k,K,hk,st,us,ω,ρ,R,e=>by
   obtain⟨h1,g⟩:=ho.app;exact Mp a h1 (jl (λst us ω ρ R e=>Mp b g hk (R.trim l) e) hk) R e
 | .cond c a b,ho,k,K,hk,st,us,ω,ρ,R,e=>by
   obtain⟨h1,g⟩:=ho.app;simp only[Gy]at e;simp only[PCode.er,BT];split at e
   ·rename_i t z;rw[(R.ev_fl z (by simp)).1];simp only;split at e
    ·rename_i ht;rw[Ac ht];exact Mp a h1 hk R e
    rename_i ht;rw[Ae ht];exact Mp b g hk R e
   exact e.elim
 | .block i a,ho,k,K,hk,st,us,ω,ρ,R,e=>by
   refine Mp a ho (λe st us ω ρ R h=>?_) R e;cases e with
   |normal=>exact hk _ _ _ _ _ R h
   |ret=>exact hk _ _ _ _ _ R h
   | exit j=>
     simp only[bV]at h;simp only[IY];split at h
     ·rename_i q;rw[Ac q];exact hk _ _ _ _ _ R h
     rename_i q;rw[Ae q];exact hk _ _ _ _ _ R h
 | .scope a,ho,k,K,hk,st,us,ω,ρ,R,e=>by
   refine Mp a ho (λG f4 u_ ω' ρ' D h=>?_) R e;obtain⟨ω2,A⟩:=D.trunc (n:=st.hp.length) (λl i y=>R.bdp l i (R.fr.ptr l i y));exact hk _ _ _ _ _ A h
 | .loop live a,ho,k,K,hk,st,us,ω,ρ,R,e=>by
   obtain⟨n,e⟩:=e;refine⟨n,?_⟩;have go:∀(n:Nat) (st:PS) (us:St) (ω:Nat->W) (ρ:Nat->Nat),RS h0 ω0 ω ρ st us X0->Tj (Gy a) live k n st->OO (BT a.er) live K n us:=by
    intro n;induction n with
    |zero=>intro st us ω ρ _ h;exact h.elim
    | succ n ih=>
      intro st us ω ρ R h;obtain⟨ω1,C⟩:=R.kp live;exact Mp a ho (jl (λst us ω ρ R e=>ih st us ω ρ R e) hk) C h
   exact go n st us ω ρ R e
 |.exit i,_,k,K,hk,st,us,ω,ρ,R,e=>hk _ _ _ _ _ R e
 |.ret,_,k,K,hk,st,us,ω,ρ,R,e=>hk _ _ _ _ _ R e
end
theorem PW{v:PV}(h:v.retc=true):v.argc=true:=by
 cases v with
 |sl q es=>rfl
 |ep=>cases h
 |fl x=>exact h
 |ptr=>rfl
 |_=>cases h
theorem ZeR{cs:List PV}(h:Fy cs=true):JY cs=true:=by
 induction cs with
 |nil=>rfl
 |cons x r b=>simp only[Fy,JY,Ai]at h ⊢;exact⟨PW h.1,b h.2⟩
theorem ZbN{v:PV}(h:v.retok=true):v.argok=true:=by
 cases v with
 |agg cs=>exact ZeR (cs:=cs) h
 |f7 b=>cases h
 |fl x=>exact PW (v:=.fl x) h
 |sl q es=>exact PW (v:=.sl q es) h
 |ep q es j o=>exact PW (v:=.ep q es j o) h
 |box i o=>exact PW (v:=.box i o) h
 |ptr i o=>exact PW (v:=.ptr i o) h
theorem P4{v:PV}(h:v.retc=true)(hd:Hd):v.g_ hd=false:=by
 cases v with
 |sl q es=>cases q<;>first|rfl|(simp[PV.retc,PV.cell]at h)
 |fl=>rfl
 |ptr=>rfl
 |ep=>cases h
 |box=>cases h
 |agg=>cases h
 |f7=>cases h
theorem Zfr{cs:List PV}(h:Fy cs=true)(hd:Hd):PV.borL hd cs=false:=by
 induction cs with
 |nil=>rfl
 |cons x r b=>simp only[Fy,PV.borL,Ai,Ce]at h ⊢;exact⟨P4 h.1 hd,b h.2⟩
theorem ku{v:PV}(h:v.retok=true)(hd:Hd):v.g_ hd=false:=by
 cases v with
 |agg cs=>exact Zfr (cs:=cs) h hd
 |f7 b=>cases h
 |fl x=>exact P4 (v:=.fl x) h hd
 |sl q es=>exact P4 (v:=.sl q es) h hd
 |ep q es j o=>exact P4 (v:=.ep q es j o) h hd
 |box i o=>exact P4 (v:=.box i o) h hd
 |ptr i o=>exact P4 (v:=.ptr i o) h hd
theorem jZ{n:Option Nat}{cs:List PV}{v:PV}(e:D2 n cs=some v)(h:Fy cs=true):v.retok=true:=by
 cases n with
 |some n=>simp[D2]at e;subst e;exact h
 | none=>
   match cs with
   | [x]=>
     simp[D2]at e;subst e;simp only[Fy,MT]at h;cases x with
     |agg=>cases h
     |f7=>cases h
     |_=>exact h
   |[]=>simp[D2]at e
   |_::_::_=>simp[D2]at e
section
variable {h0:Ab} {ω0 ω:Nat->W} {ρ ρ':Nat->Nat} {st f4 st1:PS} {us u_:St} {X X':Cz}
theorem lU (R : RS h0 ω0 ω ρ st us X) (F:∀p,(X 0).1.S_ p= .fl .undef) (D:∀j hd,(X j).1.g_ hd=false) {r:ARes} {v:PV} (e:JG st r=some (v,st1)):∃u ω',Ha us r=some u/\RS h0 ω0 ω' ρ st1 us (Xs X 0 v u)/\v.retok=true:=by
 cases r with
 | tmp t=>
   simp only[JG]at e;split at e
   ·rename_i L;simp only[Ao]at e;obtain⟨ω',R1⟩:=R.take t 0 F (λj=>D j _);have hv:(F5 (Aa st.sl t) t st).1=Aa st.sl t:=by
     simp only[F5];split
     ·rw[Ae (by rw[ku L];simp)]
     rfl
    rw[hv,e]at R1;have h1:Aa st.sl t=v:=(by rw[<- hv,e]);rw[h1]at R1 L;refine⟨get us.sl t,ω',?_,R1,L⟩;have:=pF (ZbN L) (by rw[<- h1];exact R.sh t) (hd:=.s t) (λp=>by rw[<- h1];exact R.core.rc (.s t) p);simp only[Ha,this,AS]
   cases e
 | cell t n=>
   simp only[JG]at e;split at e
   ·rename_i i o M;have z:get us.sl t= .box i o:=R.ev_box (x:=.t t) M;split at e
    ·rename_i Y;obtain⟨g,y⟩:=Y;simp only[IM,Gk,Ac g,AS,B9]at e;obtain⟨v',e,O⟩:=e;cases O;have A:∀k,Aq (Ci st.bx i (AX (Aq st.bx i) o (Dj (s_ (Aq st.bx i) o (n.getD 1))))) k=if k=i then AX (Aq st.bx i) o (Dj (s_ (Aq st.bx i) o (n.getD 1)))else Aq st.bx k:=by
      intro k;rw[Lj];by_cases I:k=i
      ·subst I;rcases Bx k st.bx.length with h|h
       ·simp[h]
       rw[Ae (by omega),Ac rfl];have:Aq st.bx k=[]:=(by rw[Dt,BO h];rfl);rw[this];generalize Dj (s_ [] o (n.getD 1))=q;cases q<;>rfl
      simp[I]
     obtain⟨u,ω',h1,G,_⟩:=R.loadmv F D (f4:={ st with sl:=clr (.b i) st.sl,bx:=Ci st.bx i (AX (Aq st.bx i) o (Dj (s_ (Aq st.bx i) o (n.getD 1)))) }) (hd:=.b i) (cs:=Aq st.bx i) (ws:=AZ us.bx i) (by simp) (by simp)
      (λp => rfl) (λp=>by simp only[Aj,A,Ac]) (λf_ p h h'=>by
       cases f_ with
       |b k=>simp only[Aj,A];rw[Ae (λG=>h (by rw[G]))]
       |s t=>exact absurd rfl (h' t)
       | _ => rfl) rfl (R.lb i).symm g (R.cb i) (by rw[Jx];exact R.lbx) (λk=>by
         simp only[A];split
         ·rename_i I;rw[I,Hs];exact R.lb i
         ·exact R.lb k) (λk c=>by
         simp only[A];split
         ·rw[IA _ _ _ _ (by rw[Mv,FM g];exact g)];split
          ·rw[P9];split
           ·rfl
           rw[DI];split
           ·exact R.cb i _
           rfl
          exact R.cb i c
         exact R.cb k c) R.ch rfl (λ_=>rfl) e
     exact⟨u,ω',by simp only[Ha,z];rw[Ac (by rw[<- R.lb i];exact g)];exact h1,G,jZ e y⟩
    cases e
   ·rename_i i o M;obtain⟨z,_⟩:=R.ev_ptr (x:=.t t) M;simp only[T_.ev]at z;split at e
    ·rename_i Y;obtain⟨hi,g,y⟩:=Y;have U:i<st.hp.length/\o+n.getD 1<=(Aq st.hp i).length:=⟨hi,g⟩;simp only[IP,Ac U,AS,B9]at e;obtain⟨v',e,O⟩:=e;cases O;obtain⟨b,hb1,Z,J⟩:=R.X_ hi;have C:(A4 us.hp (ρ i)).length=(Aq st.hp i).length:=(R.hp i hi).2;have N:rd us.hp (ρ i) o (n.getD 1)=some (((A4 us.hp (ρ i)).drop o).take (n.getD 1)):=by
      simp[rd,hb1,Z,J];rw[<- J,C];exact g
     have A:∀k,Aq (Ci st.hp i (AX (Aq st.hp i) o (Dj (s_ (Aq st.hp i) o (n.getD 1))))) k=if k=i then AX (Aq st.hp i) o (Dj (s_ (Aq st.hp i) o (n.getD 1)))else Aq st.hp k:=by
      intro k;rw[Lj];simp[hi]
     obtain⟨u,ω',h1,G,_⟩:=R.loadmv F D (f4:={ st with sl:=clr (.h i) st.sl,hp:=Ci st.hp i (AX (Aq st.hp i) o (Dj (s_ (Aq st.hp i) o (n.getD 1)))) }) (hd:=.h i) (cs:=Aq st.hp i) (ws:=A4 us.hp (ρ i)) (by simp) (by simp)
      (λp => rfl) (λp=>by simp only[Aj,A,Ac]) (λf_ p h h'=>by
       cases f_ with
       |h k=>simp only[Aj,A];rw[Ae (λG=>h (by rw[G]))]
       |s t=>exact absurd rfl (h' t)
       | _ => rfl) rfl C g (R.ch i) R.lbx R.lb R.cb (λk c=>by
         simp only[A];split
         ·rw[IA _ _ _ _ (by rw[Mv,FM g];exact g)];split
          ·rw[P9];split
           ·rfl
           rw[DI];split
           ·exact R.ch i _
           rfl
          exact R.ch i c
         ·exact R.ch k c) (by simp[Jx]) (λk=>by
         simp only[A];split
         ·rename_i I;rw[I,Hs]
         rfl) e
     exact⟨u,ω',by simp only[Ha,z,N,II,h1],G,jZ e y⟩
    cases e
   cases e
def HX(l:List (PV×V)):Cz:=λi=>match i with
 |0=>(.fl .undef,.undef)|i+1=>l[i]?.getD (.fl .undef,.undef)
theorem ou(l:List (PV×V))(x:PV×V)(i:Nat):HX (l++[x]) i=if i=l.length+1 then x else HX l i:=by
 cases i with
 |zero=>rfl
 | succ i=>
   simp only[HX,Nat.add_right_cancel_iff];by_cases h:i=l.length
   ·subst h;simp
   rw[Ae h];rcases Bx i l.length with h1|h1
   ·rw[Bi h1]
   rw[BO (by simp;omega),BO h1]
theorem oH{l:List (PV×V)}(h:∀x∈l,x.1.retok=true)(j:Nat)(hd:Hd):(HX l j).1.g_ hd=false:=by
 cases j with
 |zero=>rfl
 | succ i=>
   simp only[HX];cases e:l[i]? with
   |none=>rfl
   |some x=>exact ku (h x (HL e)) hd
theorem RS.stash{l:List (PV×V)}{v:PV}{u:V}(y:∀x∈l,x.1.retok=true)(R:RS h0 ω0 ω ρ st us (Xs (HX l) 0 v u))(q:v.retok=true):∃ω',RS h0 ω0 ω' ρ st us (HX (l++[(v,u)])):=by
 refine⟨_,RS.ren (f4:=st) (u_:=us) (X':=HX (l++[(v,u)])) R (Ren.mv_ok (.x 0) (.x (l.length+1))) (Yg (by simp)) (λf_ p=>?_) rfl R.sh (λi=>?_) R.lsl R.lbx R.lb R.cb R.ch rfl (λ_=>rfl)⟩
 ·cases f_ with
  | x i =>
    simp only[Aj,ou];by_cases hi:i=l.length+1
    ·subst hi;simp only[Ac];exact .inl ⟨.x 0,p,rfl,λ_ r=>by simp[Ren.mv],λg n j e=>absurd e ((RV q p).1 g n j)⟩
    simp only[Ae hi];cases i with
    |zero=>exact .inr (Dk (Ba p))
    | succ i=>
      refine .inl ⟨.x (i+1),p,rfl,λ_ r=>Ren.l_ (by simp) (by simpa using hi) _,λg n j e=>?_⟩;exfalso;have:=Ea (oH y (i+1) g) e;exact this rfl
  |s t=>exact .inl (Bt rfl (λ_=>Ren.l_ (by simp) (by simp)) λg n j _ h=>Ren.l_ (h 0) (h _))
  |b t=>exact .inl (Bt rfl (λ_=>Ren.l_ (by simp) (by simp)) λg n j _ h=>Ren.l_ (h 0) (h _))
  |h t=>exact .inl (Bt rfl (λ_=>Ren.l_ (by simp) (by simp)) λg n j _ h=>Ren.l_ (h 0) (h _))
 rw[ou];split
 ·exact R.shx 0
 cases i with
 |zero=>exact Bf _
 |succ i=>exact R.shx (i+1)
theorem iF:∀(i:List ARes) {ω:Nat->W} {st st1:PS} {l:List (PV×V)} {g:List PV},(∀x∈l,x.1.retok=true)->RS h0 ω0 ω ρ st us (HX l)->IL st i=some (g,st1) ->
 ∃ws ω',E5 us i=some ws/\ws.length=g.length/\RS h0 ω0 ω' ρ st1 us (HX (l++g.zip ws))/\∀v∈g,v.retok=true
 | [],ω,st,st1,l,g,hl,R,e=>by
   simp only[IL,Ao,An]at e;obtain⟨rfl,rfl⟩:=e;exact⟨[],ω,rfl,rfl,by simpa using R,by simp⟩
 | r :: i,ω,st,st1,l,g,hl,R,e=>by
   simp only[IL]at e;cases q:JG st r with
   |none=>rw[q]at e;cases e
   | some x=>
     obtain⟨v,t⟩:=x;rw[q]at e;simp only at e;cases n:IL t i with
     |none=>rw[n]at e;cases e
     | some y=>
       obtain⟨s,I⟩:=y;rw[n]at e;cases e;obtain⟨u,ω1,h1,G,j⟩:=lU R (λp=>Ba p) (oH hl) q;obtain⟨ω2,F⟩:=RS.stash hl G j;obtain⟨ws,ω3,C,A,D,z⟩:=iF i (l:=l++[(v,u)]) (λx b=>by
        rcases CN.1 b with b|b
        ·exact hl x b
        simp at b;rw[b];exact j) F n
       refine⟨u::ws,ω3,by simp only[E5,h1,C],by simp[A],by simpa using D,?_⟩;simp only[Cu];rintro x (rfl|b)
       ·exact j
       exact z x b
def Ren.tupl:Ren:=λhd p=>match hd with
 |.x 0=>.Z'|.x (j+1)=>.own (.x 0) (j::p)|hd=>.own hd p
theorem Ren.tupl_ok:Ren.tupl.Ok:=by
 refine⟨λhd p f_ p' x c e b=>?_,λhd p=>?_⟩
 ·cases hd with
  | x j => cases j with
    |zero=>cases e
    | succ j=>
      cases e;cases f_ with
      | x k=>cases k with
        |zero=>cases b
        |succ k=>simp[Ren.tupl]at b;exact⟨by rw[b.1],b.2.symm⟩
      |_=>simp[Ren.tupl]at b
  | _=>
    cases e;cases f_ with
    |x k=>cases k<;>simp[Ren.tupl]at b
    |_=>simp[Ren.tupl]at b;first|exact⟨by rw[b.1],b.2.symm⟩|skip
 cases hd with
 | x j=>cases j with
   |zero=>exact .inl rfl
   |succ j=>exact .inr ⟨_,_,rfl⟩
 |_=>exact .inr ⟨_,_,rfl⟩
theorem Ren.tupl_still{hd:Hd}(h:∀i,hd≠.x i):Ren.tupl.still hd:=λp=>by
 cases hd with
 |x i=>exact absurd rfl (h i)
 |_=>rfl
theorem ZgP(hd:Hd)(p:List Nat)(i:Nat)(q:List Nat)(e:Ren.tupl hd p= .own (.h i) q):hd= .h i:=by
 cases hd with
 |x j=>cases j<;>cases e
 |_=>first|(cases e;done)|(cases e;rfl)
theorem ng{b:List PV}{ws:List V}(j:ws.length=b.length)(i:Nat):HX (b.zip ws) (i+1)=(Aa b i,get ws i):=by
 simp only[HX,DM,CP];rcases Bx i b.length with h|h
 ·have g:i<ws.length:=(by omega);rw[A9 (by simp;omega),A9 h,A9 g];simp
 rw[BO (by simp;omega),BO h,BO (by omega)];rfl
theorem ZK{v:PV}(h:v.retok=true\/v= .fl .undef):∀b,v≠.f7 b:=by
 rintro b rfl;rcases h with h|h<;>cases h
theorem aS{b:List PV}(h:∀v∈b,v.retok=true)(i:Nat):(Aa b i).retok=true\/Aa b i= .fl .undef:=by
 rw[DM];cases e:b[i]? with
 |none=>exact .inr rfl
 |some v=>exact .inl (h v (HL e))
theorem RS.tupl{g:List PV}{ws:List V}(R:RS h0 ω0 ω ρ st us (HX (g.zip ws)))(A:ws.length=g.length)(D:∀v∈g,v.retok=true):∃ω',RS h0 ω0 ω' ρ st us (X1 (.f7 g) (.f7 ws)):=by
 have n:∀i,A6 (Aa g i) (get ws i):=λi=>by have:=R.shx (i+1);rw[ng A]at this;exact this
 refine⟨_,RS.ren (f4:=st) (u_:=us) (X':=X1 (.f7 g) (.f7 ws)) R Ren.tupl_ok ZgP (λf_ p=>?_) rfl R.sh (λi=>?_) R.lsl R.lbx R.lb R.cb R.ch rfl (λ_=>rfl)⟩
 ·cases f_ with
  | x i =>
    by_cases hi:i=0
    ·subst hi
     match p with
     |[]=>exact .inr (A5 rfl)
     |[_]=>exact .inr (A5 rfl)
     |_::_::_::_=>exact .inr (A5 rfl)
     | [k, c]=>
       have C:Aj ρ st us (X1 (.f7 g) (.f7 ws)) (.x 0) [k,c]=(Aa (Aa g k).cells c,get (get ws k).cells c):=rfl;rw[C];rcases aS D k with q|q
       ·have j:=ZK (.inl q);have hs:Shp1 (Aa g k) (get ws k):=by
         have:=n k;generalize Aa g k=w at this j;cases w with
         |f7 g=>exact absurd rfl (j _)
         |_=>exact this
        have G:Aa g k≠.fl .undef:=(by intro h;rw[h]at q;cases q);have F:=NB j c;have I:=RJ (hs.notup G) c;refine .inl ⟨.x (k+1),[c],?_,λ_ r=>rfl,λz y u e=>?_⟩
        ·simp only[Aj,ng A];rw[F,I]
        rw[<- F]at e;exact absurd e ((RV q [c]).1 z y u)
       refine .inr (Dk ?_);rw[q];cases c<;>rfl
    exact .inr (A5 (FX i hi p))
  |s t=>exact .inl (Bt rfl (λ_=>Ren.tupl_still (by simp)) λz y u _ h=>Ren.tupl_still h)
  |b t=>exact .inl (Bt rfl (λ_=>Ren.tupl_still (by simp)) λz y u _ h=>Ren.tupl_still h)
  |h t=>exact .inl (Bt rfl (λ_=>Ren.tupl_still (by simp)) λz y u _ h=>Ren.tupl_still h)
 by_cases hi:i=0
 ·subst hi;refine⟨ws,rfl,A,λi=>?_⟩;have j:=ZK (aS D i);have:=n i;generalize Aa g i=w at this j;cases w with
  |f7 g=>exact absurd rfl (j _)
  |_=>exact this
 rw[DW _ _ i hi];exact Bf _
theorem ZbV(R:RS h0 ω0 ω ρ st us X0){g:List ARes}{v:PV}(e:LL st g=some (v,st1)):∃u ω',Fc us g=some u/\RS h0 ω0 ω' ρ st1 us (X1 v u)/\v.nob:=by
 have b:(IL st g).map (λ(x,st)=>(PV.f7 x,st))=some (v,st1)->(∀r,g≠[r])->∃u ω',Fc us g=some u/\RS h0 ω0 ω' ρ st1 us (X1 v u)/\v.nob:=by
  intro e j;simp only[B9]at e;obtain⟨⟨x,s⟩,I,G⟩:=e;cases G;have F:(HX []:Cz)=X0:=(by funext i;cases i<;>rfl);obtain⟨ws,ω1,h1,y,D,n⟩:=iF g (l:=[]) (by simp) (by rw[F];exact R) I;rw[CJ]at D;obtain⟨ω2,J⟩:=D.tupl y n;refine⟨.f7 ws,ω2,?_,J,λp C A z e=>?_⟩
  ·match g,j with
   |[],_=>simp only[Fc,h1];rfl
   |[r],j=>exact absurd rfl (j r)
   |_::_::_,_=>simp only[Fc,h1];rfl
  match p with
  |[]=>cases e
  |[_]=>cases e
  |_::_::_::_=>cases e
  | [k,c]=>
    have t:(Aa (Aa x k).cells c).q=some (.g_ C A z):=e;rcases aS n k with j|j
    ·rw[<- NB (ZK (.inl j)) c]at t;exact(RV j [c]).1 C A z t
    rw[j]at t;cases c<;>cases t
 match g,e,b with
 | [r],e,_=>
   obtain⟨u,ω',h1,y,n⟩:=lU R (λp=>Ba p) (λ_ _=>rfl) e;exact⟨u,ω',h1,y,λp=>(RV n p).1⟩
 |[],e,b=>exact b e (by simp)
 |_::_::_,e,b=>exact b e (by simp)
theorem RS.forget(R:RS h0 ω0 ω ρ st us X):RS h0 ω0 ω ρ ⟨[],[],st.hp⟩ ⟨[],[],us.hp⟩ X:=by
 have:=RS.ren (f4:=⟨[],[],st.hp⟩) (u_:=⟨[],[],us.hp⟩) (X':=X) R Ren.id_ok (λhd p i q e=>by simp[Ren.id]at e;exact e.1) (λf_ p=>?_) rfl (λt=>Bf _) R.shx rfl rfl (λ_=>rfl) (λ_ _=>rfl) R.ch rfl (λ_=>rfl)
 ·rwa [Du]at this
 cases f_ with
 |x i=>exact .inl (Bu rfl)
 |h i=>exact .inl (Bu rfl)
 |s t=>exact .inr (A5 (Ba p))
 |b t=>refine .inr (A5 ?_);simp only[Aj,Aq];unfold Bh;split<;>rfl
theorem Zdr(n i:Nat):Aa (Ja n) i= .fl .undef:=by
 induction n generalizing i with
 |zero=>rfl
 | succ n ih=>cases i with
   |zero=>rfl
   |succ i=>exact ih i
theorem Zdx(n:Nat):(Ja n).length=n:=by
 induction n with
 |zero=>rfl
 |succ n b=>simp[Ja,b]
theorem aa(n i:Nat):Aq (LK n) i=[]:=by
 induction n generalizing i with
 |zero=>rfl
 | succ n ih=>cases i with
   |zero=>rfl
   |succ i=>exact ih i
theorem Zdz(n i:Nat):AZ (He n) i=[]:=by
 induction n generalizing i with
 |zero=>rfl
 | succ n ih=>cases i with
   |zero=>rfl
   |succ i=>exact ih i
theorem ZdN(n:Nat):(LK n).length=n:=by
 induction n with
 |zero=>rfl
 |succ n b=>simp[LK,b]
theorem Zfe(n:Nat):(He n).length=n:=by
 induction n with
 |zero=>rfl
 |succ n b=>simp[He,b]
theorem RS.start{args:List PV}{ws:List V}{H:List (List PV)}{h:Ab}(R:RS h0 ω0 ω ρ ⟨args,[],H⟩ ⟨ws,[],h⟩ X0)(n m:Nat):RS h0 ω0 ω ρ ⟨args++Ja n,LK m,H⟩ ⟨ws++Es n,He m,h⟩ X0:=by
 have j:args.length=ws.length:=R.lsl;have sl:∀t,(t<args.length/\Aa (args++Ja n) t=Aa args t/\get (ws++Es n) t=get ws t)\/Aa (args++Ja n) t= .fl .undef:=by
  intro t;rcases Bx t args.length with h|h
  ·exact .inl ⟨h,Y5 _ _ _ h,gD _ _ _ (by omega)⟩
  exact .inr (by rw[YY _ _ _ h,Zdr])
 have:=RS.ren (f4:=⟨args++Ja n,LK m,H⟩) (u_:=⟨ws++Es n,He m,h⟩) (X':=X0) R Ren.id_ok (λhd p i q e=>by simp[Ren.id]at e;exact e.1) (λf_ p=>?_) rfl (λt=>?_) R.shx (by simp[Zdx,lC,j]) (by simp[ZdN,Zfe]) (λi=>by simp[aa,Zdz]) (λi c=>by simp[aa,Aa,PV.lay]) R.ch rfl (λ_=>rfl)
 ·rwa [Du]at this
 ·cases f_ with
  |x i=>exact .inl (Bu rfl)
  |h i=>exact .inl (Bu rfl)
  | s t=>
    simp only[Aj];rcases sl t with⟨_,h1,g⟩|h1
    ·rw[h1,g];exact .inl (Bu (hd:=.s t) rfl)
    rw[h1];exact .inr (Dk (Ba p))
  |b t=>refine .inr (A5 ?_);simp only[Aj,aa];unfold Bh;split<;>rfl
 simp only;rcases sl t with⟨_,h1,g⟩|h1
 ·rw[h1,g];exact R.sh t
 rw[h1];exact Bf _
theorem aO{cs:List PV}(h:PV.fltL cs=true)(c:Nat)(b:c<cs.length):(Aa cs c).flt=true:=by
 induction cs generalizing c with
 |nil=>simp at b
 | cons x r ih=>
   simp only[PV.fltL,Ai]at h;cases c with
   |zero=>exact h.1
   |succ c=>exact ih h.2 c (by simpa using b)
theorem bK{H:Ab}{m:Md}{v:PV}{u:V}(r:RC H ω m v u)(h:v.flt=true):u.flat=true/\v= .fl u:=by
 cases r with
 |undef=>cases h
 |v _ _ b=>exact⟨b,rfl⟩
 |nil=>cases h
 |sl=>cases h
 |ep=>cases h
 |box=>cases h
 |ptr=>cases h
theorem kL{H:Ab}{hd:Hd}{p:List Nat}{v:PV}{u:V}(h:v.flt=true)(hs:Shp1 v u)(g:∀c,RC H ω (.at hd (p++[c])) (Aa v.cells c) (get u.cells c)):u.flat1=true:=by
 cases v with
 | agg cs=>
   obtain⟨ws,rfl,s⟩:=hs;simp only[V.flat1,Dw];intro w j;obtain⟨c,n,rfl⟩:=IW j;have r:RC H ω (.at hd (p++[c])) (Aa cs c) (get ws c):=g c;rw[CP,A9 n]at r;exact(bK r (aO h c (by omega))).1
 |f7 q=>exact hs.elim
 | fl x=>
   have i:x≠.undef:=(by rintro rfl;cases h);have b:(∀us,u≠.agg us)/\∀us,u≠.f7 us:=(by cases x<;>first|exact hs|exact absurd rfl i);have r:RC H ω (.at hd (p++[0])) (.fl x) (get u.cells 0):=g 0;have e:get u.cells 0=u:=(by cases u<;>first|rfl|exact absurd rfl (b.1 _));rw[e]at r;have:=(bK r h).1;cases u<;>first|exact this|exact absurd rfl (b.1 _)
 |_=>cases h
theorem ZeD{v:PV}{u:V}(R:RS h0 ω0 ω ρ st us (X1 v u))(h:v.flt=true):u.flat2=true:=by
 have hs:A6 v u:=R.shx 0;have s:∀p,RC us.hp ω (.at (.x 0) p) (v.S_ p) (u.S_ p):=λp=>R.core.rc (.x 0) p;have n:(∀j,v≠.f7 j)->u.flat2=true:=by
  intro g;have b:Shp1 v u:=(by cases v<;>first|exact hs|exact absurd rfl (g _));have t:v≠.fl .undef:=(by rintro rfl;cases h);have:=kL (p:=[]) h b (λc=>by have:=s [c];rw[NB g,RJ (b.notup t)]at this;exact this);have q:=b.notup t;cases u<;>first|exact this|exact absurd rfl (q _)
 cases v with
 | f7 j=>
   obtain⟨ws,rfl,C,A⟩:=hs;simp only[V.flat2,Dw];intro w y;obtain⟨i,hi,rfl⟩:=IW y;have z:=aO (cs:=j) h i (by omega);have:=kL (hd:=.x 0) (p:=[i]) z (A i) (λc=>s [i,c]);rw[CP,A9 hi]at this;exact this
 |_=>exact n (by simp)
theorem Wj{f:PFun}(L:AllP f.body.t8):JJ (EG f.er) (IG f):=by
 intro h ω0 ρ args ws H Q K R hloc ⟨hlen,hpu,hb⟩ hK;refine⟨by rw[<- R.lsl];exact hlen,?_⟩;have O:=R.start (f.nslots-f.nparams) f.nbox;have C:h.length<=h.length:=BH _;refine Mp f.body L (k:=qi f.pure f.res Q) (K:=Ys f.er h K) (λe st us ω ρ2 N g=>?_) O hb;have y:(match LL st f.res with|some (v,st)=>if f.pure then v.flt=true/\Q v []else Q v st.hp|none=>False)->(match Fc us f.res with|some v=>if f.pure then v.flat2=true/\us.hp.take h.length=h/\K v h else K v us.hp|none=>False):=by
  intro g;cases hp:LL st f.res with
  |none=>rw[hp]at g;exact g.elim
  | some x=>
    obtain⟨v,Z⟩:=x;rw[hp]at g;simp only at g;obtain⟨u,ω',h1,z,n⟩:=ZbV N hp;rw[h1];simp only;cases j:f.pure with
    | false=>
      rw[j]at g;simp only[AY,A3]at g ⊢;exact hK _ _ _ _ _ _ g z.forget n
    | true=>
      rw[j]at g;simp only[AS]at g ⊢;have M:=hpu j;subst M;have t:∀l,l<h.length->us.hp[l]?=h[l]?:=by
       intro l A;refine(z.fr.old l A ?_).1;cases e:ω0 l with
       |Z'=>exact .inl rfl
       |none=>exact .inr rfl
       | own hd p=>
         obtain⟨i,rfl⟩:=hloc l hd p e;have:=R.bdh l i p e;simp at this
       |ptr i=>have:=R.bdp l i e;simp at this
      have F:=ZeD z g.1;refine⟨F,?_,?_⟩
      ·refine IU λl=>?_;by_cases A:l<h.length
       ·rw[Oo A,t l A]
       rw[BO (by simp;omega),BO (by omega)]
      ·
       have hs:A6 v u:=z.shx 0;have s:∀p,RC h ω0 (.at (.x 0) p) (v.S_ p) (u.S_ p):=by
        intro p;have r:RC us.hp ω' (.at (.x 0) p) (v.S_ p) (u.S_ p):=z.core.rc (.x 0) p;have D:(v.S_ p).flt=true\/v.S_ p= .fl .undef:=by
         have I:∀(cs:List PV) c,PV.fltL cs=true->(Aa cs c).flt=true\/Aa cs c= .fl .undef:=by
          intro cs c h;rcases Bx c cs.length with G|G
          ·exact .inl (aO h c G)
          exact .inr (Gm _ _ G)
         have q:=g.1;unfold PV.S_;split
         ·exact I _ _ q
         ·exact .inr rfl
         ·rename_i J i c;rcases I J i q with h|h
          ·generalize Aa J i=w at h;cases w with
           |agg cs=>exact I cs c h
           |_=>cases c<;>first|exact .inl h|exact .inr rfl
          rw[h];cases c<;>exact .inr rfl
         ·exact .inr rfl
         ·exact .inl q
         exact .inr rfl
        rcases D with h|h
        ·obtain⟨a,b⟩:=bK r h;rw[b];exact .v _ _ a
        rw[h];exact .undef _ _
       have U:RS h ω0 ω0 ρ ⟨[],[],[]⟩ ⟨[],[],h⟩ X0:=R.forget;exact hK u h v [] ω0 ρ g.2 (U.handx hs s (λp=>by
        intro i pb Y e;exact n p _ _ _ e)) n
 cases e with
 |normal=>exact y g
 |ret=>exact y g
 |exit i=>exact g.elim
end
noncomputable section
def shut.{u}{α:Sort u}(a:α):{x:α // x=a}:=Classical.choice ⟨⟨a,rfl⟩⟩
section
variable {α:Type}
def Zjk(k:IntKind)(a b:Int):Int:=k.wrap (a+b)
def Zjd(k:IntKind)(a b:Int):Int:=k.wrap (a-b)
def ZiF(k:IntKind)(a b:Int):Int:=k.wrap (a*b)
def ZiE(k:IntKind)(a b:Int):Int:=k.wrap (a.tdiv b)
def ZiO(a b:Int):Int:=a.tmod b
def Zi2(k:IntKind)(a b:Int):Int:=k.wrap (BitVec.ofInt k.bits a &&& BitVec.ofInt k.bits b).toNat
def ZjH(k:IntKind)(a b:Int):Int:=k.wrap (BitVec.ofInt k.bits a ||| BitVec.ofInt k.bits b).toNat
def Zjp(k:IntKind)(a b:Int):Int:=k.wrap (BitVec.ofInt k.bits a ^^^ BitVec.ofInt k.bits b).toNat
def Zfz(k:IntKind)(a b:Int):Int:=k.wrap (BitVec.ofInt k.bits a &&& ~~~BitVec.ofInt k.bits b).toNat
def ZiV(k:IntKind)(a b:Int):Int:=k.wrap (a*2^min b.toNat k.bits)
def ZiZ(k:IntKind)(a b:Int):Int:=a.fdiv (2^min b.toNat k.bits)
def Zjn(k:IntKind)(a:Int):Int:=k.wrap (0-a)
def Zih(k:IntKind)(a:Int):Int:=k.wrap a
def Zi8(a b:Int):Int:=if b<a then b else a
def Zjb(a b:Int):Int:=if b > a then b else a
def ZiI(a:Int):Nat:=a.toNat
def Zjz(a b:Int):Bool:=a == b
def ZjB(a b:Int):Bool:=a != b
def Zjy(a b:Int):Bool:=decide (a<b)
def ZjG(a b:Int):Bool:=decide (a<=b)
def Zjx(a b:Int):Bool:=decide (a > b)
def ZjC(a b:Int):Bool:=decide (a>=b)
def Zjt(a b:List UInt8):List UInt8:=a++b
def ZjE(a b:List UInt8):Bool:=a == b
def ZjI(a b:List UInt8):Bool:=!(a == b)
def Zjg(s:List UInt8)(j:Int):Int:=(s.getD j.toNat 0).toNat
def Zjl(s:List UInt8):List Int:=s.map λb=>((b.toNat:Nat):Int)
def Zji(l:List Int):List UInt8:=l.map λn=>UInt8.ofNat n.toNat
def ZiT(l:List α):Int:=l.length
def ZjM(l:List α):Nat:=l.length
def Zi0(l:List α)(j:Nat)(d:α):α:=l.getD j d
def Zjh(l:List α)(j:Nat)(x:α):List α:=l.set j x
def ZiM(l:List α)(a b:Nat):List α:=(l.drop a).take (b-a)
def Zh6(l:List α)(n:Nat):List α:=l.take n
def ZiY(l m:List α):List α:=l++m
def Zjq(n:Int)(x:α):List α:=List.replicate n.toNat x
def Zi7(a:Bool):Bool:=!a
def ZiJ(a b:Bool):Bool:=a&&b
def Zjw(a b:Bool):Bool:=a||b
def Zjf(a b:Bool):Bool:=a == b
def ZiQ(c:Bool)(x y:α):α:=bif c then x else y
end
structure Leaf where
 V':∀(k:IntKind) (a b:Int),Int
 iSub:∀(k:IntKind) (a b:Int),Int
 iMul:∀(k:IntKind) (a b:Int),Int
 iQuo:∀(k:IntKind) (a b:Int),Int
 iRem:∀(a b:Int),Int
 iAnd:∀(k:IntKind) (a b:Int),Int
 iOr:∀(k:IntKind) (a b:Int),Int
 iXor:∀(k:IntKind) (a b:Int),Int
 iAndNot:∀(k:IntKind) (a b:Int),Int
 iShl:∀(k:IntKind) (a b:Int),Int
 iShr:∀(k:IntKind) (a b:Int),Int
 iNeg:∀(k:IntKind) (a:Int),Int
 iConv:∀(k:IntKind) (a:Int),Int
 iMin:∀(a b:Int),Int
 iMax:∀(a b:Int),Int
 R_:∀(a:Int),Nat
 g9:∀(a b:Int),Bool
 i_:∀(a b:Int),Bool
 c_:∀(a b:Int),Bool
 iLe:∀(a b:Int),Bool
 iGt:∀(a b:Int),Bool
 iGe:∀(a b:Int),Bool
 sAdd:∀(a b:List UInt8),List UInt8
 sEq:∀(a b:List UInt8),Bool
 sNe:∀(a b:List UInt8),Bool
 sGet:∀(s:List UInt8) (j:Int),Int
 sRow:∀(s:List UInt8),List Int
 rowS:∀(l:List Int),List UInt8
 U_:∀ {α:Type} (l:List α),Int
 lN:∀ {α:Type} (l:List α),Nat
 So:∀ {α:Type} (l:List α) (j:Nat) (d:α),α
 lSet:∀ {α:Type} (l:List α) (j:Nat) (x:α),List α
 lSub:∀ {α:Type} (l:List α) (a b:Nat),List α
 lTake:∀ {α:Type} (l:List α) (n:Nat),List α
 i9:∀ {α:Type} (l m:List α),List α
 lRep:∀ {α:Type} (n:Int) (x:α),List α
 U':∀(a:Bool),Bool
 W_:∀(a b:Bool),Bool
 w_:∀(a b:Bool),Bool
 bIff:∀(a b:Bool),Bool
 Y_:∀ {α:Type} (c:Bool) (x y:α),α
def pX:Leaf:=⟨@Zjk,@Zjd,@ZiF,@ZiE,@ZiO,@Zi2,@ZjH,@Zjp,@Zfz,@ZiV,@ZiZ,@Zjn,@Zih,@Zi8,@Zjb,@ZiI,@Zjz,@ZjB,@Zjy,@ZjG,@Zjx,@ZjC,@Zjt,@ZjE,@ZjI,@Zjg,@Zjl,@Zji,@ZiT,@ZjM,@Zi0,@Zjh,@ZiM,@Zh6,@ZiY,@Zjq,@Zi7,@ZiJ,@Zjw,@Zjf,@ZiQ⟩
def AR:{l:Leaf // l=pX}:=Classical.choice ⟨⟨pX,rfl⟩⟩
section
variable {α:Type}
@[irreducible] def V'(k:IntKind)(a b:Int):Int:=AR.1.V' k a b
theorem dO(k:IntKind)(a b:Int):V' k a b=(k.wrap (a+b)):=by unfold V';rw[AR.2];rfl
@[irreducible] def iSub(k:IntKind)(a b:Int):Int:=AR.1.iSub k a b
theorem oP(k:IntKind)(a b:Int):iSub k a b=(k.wrap (a-b)):=by unfold iSub;rw[AR.2];rfl
@[irreducible] def iMul(k:IntKind)(a b:Int):Int:=AR.1.iMul k a b
theorem Zir(k:IntKind)(a b:Int):iMul k a b=(k.wrap (a*b)):=by unfold iMul;rw[AR.2];rfl
@[irreducible] def iQuo(k:IntKind)(a b:Int):Int:=AR.1.iQuo k a b
theorem Zii(k:IntKind)(a b:Int):iQuo k a b=(k.wrap (a.tdiv b)):=by unfold iQuo;rw[AR.2];rfl
@[irreducible] def iRem(a b:Int):Int:=AR.1.iRem a b
theorem dg(a b:Int):iRem a b=(a.tmod b):=by unfold iRem;rw[AR.2];rfl
@[irreducible] def iAnd(k:IntKind)(a b:Int):Int:=AR.1.iAnd k a b
theorem oL(k:IntKind)(a b:Int):iAnd k a b=(k.wrap (BitVec.ofInt k.bits a &&& BitVec.ofInt k.bits b).toNat):=by unfold iAnd;rw[AR.2];rfl
@[irreducible] def iOr(k:IntKind)(a b:Int):Int:=AR.1.iOr k a b
theorem pt(k:IntKind)(a b:Int):iOr k a b=(k.wrap (BitVec.ofInt k.bits a ||| BitVec.ofInt k.bits b).toNat):=by unfold iOr;rw[AR.2];rfl
@[irreducible] def iXor(k:IntKind)(a b:Int):Int:=AR.1.iXor k a b
theorem oJ(k:IntKind)(a b:Int):iXor k a b=(k.wrap (BitVec.ofInt k.bits a ^^^ BitVec.ofInt k.bits b).toNat):=by unfold iXor;rw[AR.2];rfl
@[irreducible] def iAndNot(k:IntKind)(a b:Int):Int:=AR.1.iAndNot k a b
theorem kn(k:IntKind)(a b:Int):iAndNot k a b=(k.wrap (BitVec.ofInt k.bits a &&& ~~~BitVec.ofInt k.bits b).toNat):=by unfold iAndNot;rw[AR.2];rfl
@[irreducible] def iShl(k:IntKind)(a b:Int):Int:=AR.1.iShl k a b
theorem n8(k:IntKind)(a b:Int):iShl k a b=(k.wrap (a*2^min b.toNat k.bits)):=by unfold iShl;rw[AR.2];rfl
@[irreducible] def iShr(k:IntKind)(a b:Int):Int:=AR.1.iShr k a b
theorem oD(k:IntKind)(a b:Int):iShr k a b=(a.fdiv (2^min b.toNat k.bits)):=by unfold iShr;rw[AR.2];rfl
@[irreducible] def iNeg(k:IntKind)(a:Int):Int:=AR.1.iNeg k a
theorem Ziu(k:IntKind)(a:Int):iNeg k a=(k.wrap (0-a)):=by unfold iNeg;rw[AR.2];rfl
@[irreducible] def iConv(k:IntKind)(a:Int):Int:=AR.1.iConv k a
theorem mX(k:IntKind)(a:Int):iConv k a=(k.wrap a):=by unfold iConv;rw[AR.2];rfl
@[irreducible] def iMin(a b:Int):Int:=AR.1.iMin a b
theorem ZiD(a b:Int):iMin a b=(if b<a then b else a):=by unfold iMin;rw[AR.2];rfl
@[irreducible] def iMax(a b:Int):Int:=AR.1.iMax a b
theorem Zh9(a b:Int):iMax a b=(if b > a then b else a):=by unfold iMax;rw[AR.2];rfl
@[irreducible] def R_(a:Int):Nat:=AR.1.R_ a
theorem dR(a:Int):R_ a=(a.toNat):=by unfold R_;rw[AR.2];rfl
@[irreducible] def g9(a b:Int):Bool:=AR.1.g9 a b
theorem Yb(a b:Int):g9 a b=(a == b):=by unfold g9;rw[AR.2];rfl
@[irreducible] def i_(a b:Int):Bool:=AR.1.i_ a b
theorem pn(a b:Int):i_ a b=(a != b):=by unfold i_;rw[AR.2];rfl
@[irreducible] def c_(a b:Int):Bool:=AR.1.c_ a b
theorem pr(a b:Int):c_ a b=(decide (a<b)):=by unfold c_;rw[AR.2];rfl
@[irreducible] def iLe(a b:Int):Bool:=AR.1.iLe a b
theorem pe(a b:Int):iLe a b=(decide (a<=b)):=by unfold iLe;rw[AR.2];rfl
@[irreducible] def iGt(a b:Int):Bool:=AR.1.iGt a b
theorem pT(a b:Int):iGt a b=(decide (a > b)):=by unfold iGt;rw[AR.2];rfl
@[irreducible] def iGe(a b:Int):Bool:=AR.1.iGe a b
theorem pI(a b:Int):iGe a b=(decide (a>=b)):=by unfold iGe;rw[AR.2];rfl
@[irreducible] def sAdd(a b:List UInt8):List UInt8:=AR.1.sAdd a b
theorem oc(a b:List UInt8):sAdd a b=(a++b):=by unfold sAdd;rw[AR.2];rfl
@[irreducible] def sEq(a b:List UInt8):Bool:=AR.1.sEq a b
theorem pC(a b:List UInt8):sEq a b=(a == b):=by unfold sEq;rw[AR.2];rfl
@[irreducible] def sNe(a b:List UInt8):Bool:=AR.1.sNe a b
theorem ph(a b:List UInt8):sNe a b=(!(a == b)):=by unfold sNe;rw[AR.2];rfl
@[irreducible] def sGet(s:List UInt8)(j:Int):Int:=AR.1.sGet s j
@[irreducible] def sRow(s:List UInt8):List Int:=AR.1.sRow s
theorem ZiB(s:List UInt8):sRow s=(s.map λb=>((b.toNat:Nat):Int)):=by unfold sRow;rw[AR.2];rfl
@[irreducible] def rowS(l:List Int):List UInt8:=AR.1.rowS l
@[irreducible] def U_(l:List α):Int:=AR.1.U_ l
theorem oz(l:List α):U_ l=(l.length):=by unfold U_;rw[AR.2];rfl
@[irreducible] def lN(l:List α):Nat:=AR.1.lN l
theorem Yu(l:List α):lN l=(l.length):=by unfold lN;rw[AR.2];rfl
@[irreducible] def So(l:List α)(j:Nat)(d:α):α:=AR.1.So l j d
theorem cL(l:List α)(j:Nat)(d:α):So l j d=(l.getD j d):=by unfold So;rw[AR.2];rfl
@[irreducible] def lSet(l:List α)(j:Nat)(x:α):List α:=AR.1.lSet l j x
theorem dH(l:List α)(j:Nat)(x:α):lSet l j x=(l.set j x):=by unfold lSet;rw[AR.2];rfl
@[irreducible] def lSub(l:List α)(a b:Nat):List α:=AR.1.lSub l a b
theorem ow(l:List α)(a b:Nat):lSub l a b=((l.drop a).take (b-a)):=by unfold lSub;rw[AR.2];rfl
@[irreducible] def lTake(l:List α)(n:Nat):List α:=AR.1.lTake l n
theorem cu(l:List α)(n:Nat):lTake l n=(l.take n):=by unfold lTake;rw[AR.2];rfl
@[irreducible] def i9(l m:List α):List α:=AR.1.i9 l m
theorem Od(l m:List α):i9 l m=(l++m):=by unfold i9;rw[AR.2];rfl
@[irreducible] def lRep(n:Int)(x:α):List α:=AR.1.lRep n x
theorem nW(n:Int)(x:α):lRep n x=(List.replicate n.toNat x):=by unfold lRep;rw[AR.2];rfl
@[irreducible] def U'(a:Bool):Bool:=AR.1.U' a
theorem Qt(a:Bool):U' a=(!a):=by unfold U';rw[AR.2];rfl
@[irreducible] def W_(a b:Bool):Bool:=AR.1.W_ a b
theorem de(a b:Bool):W_ a b=(a&&b):=by unfold W_;rw[AR.2];rfl
@[irreducible] def w_(a b:Bool):Bool:=AR.1.w_ a b
theorem o9(a b:Bool):w_ a b=(a||b):=by unfold w_;rw[AR.2];rfl
@[irreducible] def bIff(a b:Bool):Bool:=AR.1.bIff a b
theorem oh(a b:Bool):bIff a b=(a == b):=by unfold bIff;rw[AR.2];rfl
@[irreducible] def Y_(c:Bool)(x y:α):α:=AR.1.Y_ c x y
theorem dJ(c:Bool)(x y:α):Y_ c x y=(bif c then x else y):=by unfold Y_;rw[AR.2];rfl
end
mutual
inductive CT where
 |int (k:IntKind)|bool|str|ifc|sl (r:RT)|slf (r:RT)
inductive RT where
 |one (t:CT)|cons (t:CT) (r:RT)
end
abbrev AQ:RT:=.cons (.int .i64) (.cons (.int .i64) (.one (.int .i64)))
abbrev AB:RT:=.cons (.int .i64) (.cons (.int .i64) (.cons (.int .i64) (.one (.int .i64))))
abbrev AU:RT:=.cons (.int .i64) (.cons (.int .i64) (.cons (.int .i64) (.cons (.int .i64) (.one (.int .i64)))))
mutual
def CT.D:CT->Type
 |.int _=>Int|.bool=>Bool|.str=>List UInt8|.ifc=>Bool|.sl r=>List r.D|.slf r=>List r.D
def RT.D:RT->Type
 |.one t=>t.D|.cons t r=>t.D×r.D
end
def RT.w:RT->Nat
 |.one _=>1|.cons _ r=>r.w+1
def CT.dflt:(t:CT)->t.D
 |.int _=>(0:Int)|.bool=>false|.str=>([]:List UInt8)|.ifc=>true|.sl r=>([]:List r.D)|.slf r=>([]:List r.D)
def RT.dflt:(r:RT)->r.D
 |.one t=>t.dflt|.cons t r=>(t.dflt,r.dflt)
mutual
def CT.beq:CT->CT->Bool
 |.int k,.int k'=>decide (k=k')|.bool,.bool=>true|.str,.str=>true|.ifc,.ifc=>true|.sl r,.sl r'=>RT.beq r r'|.slf r,.slf r'=>RT.beq r r'|_,_=>false
def RT.beq:RT->RT->Bool
 |.one t,.one t'=>CT.beq t t'|.cons t r,.cons t' r'=>CT.beq t t'&&RT.beq r r'|_,_=>false
end
mutual
theorem CT.beq_eq:∀ {a b:CT},CT.beq a b=true->a=b
 |.int k,.int k',h=>by simp only[CT.beq,Av]at h;rw[h]
 |.bool,.bool,_=>rfl
 |.str,.str,_=>rfl
 |.ifc,.ifc,_=>rfl
 |.sl r,.sl r',h=>by rw[RT.beq_eq (a:=r) (b:=r') h]
 |.slf r,.slf r',h=>by rw[RT.beq_eq (a:=r) (b:=r') h]
 |.int _,.bool,h|.int _,.str,h|.int _,.ifc,h|.int _,.sl _,h|.int _,.slf _,h=>by cases h
 |.bool,.int _,h|.bool,.str,h|.bool,.ifc,h|.bool,.sl _,h|.bool,.slf _,h=>by cases h
 |.str,.int _,h|.str,.bool,h|.str,.ifc,h|.str,.sl _,h|.str,.slf _,h=>by cases h
 |.ifc,.int _,h|.ifc,.bool,h|.ifc,.str,h|.ifc,.sl _,h|.ifc,.slf _,h=>by cases h
 |.sl _,.int _,h|.sl _,.bool,h|.sl _,.str,h|.sl _,.ifc,h|.sl _,.slf _,h=>by cases h
 |.slf _,.int _,h|.slf _,.bool,h|.slf _,.str,h|.slf _,.ifc,h|.slf _,.sl _,h=>by cases h
theorem RT.beq_eq:∀ {a b:RT},RT.beq a b=true->a=b
 |.one t,.one t',h=>by rw[CT.beq_eq (a:=t) (b:=t') h]
 | .cons t r,.cons t' r',h=>by
   simp only[RT.beq,Ai]at h;rw[CT.beq_eq h.1,RT.beq_eq h.2]
 |.one _,.cons _ _,h=>by cases h
 |.cons _ _,.one _,h=>by cases h
end
def HS{r' r:RT}(l:List r'.D):Option (List r.D):=if h:RT.beq r' r=true then some ((congrArg (λx:RT=>List x.D) (RT.beq_eq h)).mp l)else none
inductive BX where
 |lit (b:Bool)|dyn (b:Bool)
def BX.b:BX->Bool
 |.lit b=>b|.dyn b=>b
inductive DV where
 |any|undef|bool (b:BX)|int (k:IntKind) (n:Int)|str (s:List UInt8)|ifc (b:Bool)|nil (q:Ql)|sl (q:Ql) (r:RT) (l:List r.D)|ep (q:Ql) (r:RT) (l:List r.D) (j o:Nat)|box (i o:Nat)|ptr (i o:Nat)|agg (cs:List DV)|f7 (vs:List DV)
 deriving Inhabited
mutual
def CT.enc:(t:CT)->t.D->PV
 |.int k,n=>.fl (.int k n)|.bool,b=>.fl (.bool b)|.str,s=>.fl (.str s)|.ifc,b=>.fl (.ifc b)|.sl r,l=>.sl .own (l.map (RT.enc r))|.slf r,l=>.sl .Z' (l.map (RT.enc r))
def RT.enc:(r:RT)->r.D->List PV
 |.one t,x=>[CT.enc t x]|.cons t r,x=>CT.enc t x.1::RT.enc r x.2
end
mutual
def DV.enc:DV->PV
 |.any=>.fl .undef|.undef=>.fl .undef|.bool b=>.fl (.bool b.b)|.int k n=>.fl (.int k n)|.str s=>.fl (.str s)|.ifc b=>.fl (.ifc b)|.nil q=>.sl q []|.sl q r l=>.sl q (l.map r.enc)|.ep q r l j o=>.ep q (l.map r.enc) j o|.box i o=>.box i o|.ptr i o=>.ptr i o|.agg cs=>.agg (DV.d6 cs)|.f7 vs=>.f7 (DV.d6 vs)
def DV.d6:List DV->List PV
 |[]=>[]|v::r=>v.enc::DV.d6 r
end
def CT.dv(q:Ql):(t:CT)->t.D->DV
 |.int k,n=>.int k n|.bool,b=>.bool (.dyn b)|.str,s=>.str s|.ifc,b=>.ifc b|.sl r,l=>.sl q r l|.slf r,l=>.sl .Z' r l
def RT.dv(q:Ql):(r:RT)->r.D->List DV
 |.one t,x=>[CT.dv q t x]|.cons t r,x=>CT.dv q t x.1::RT.dv q r x.2
def CT.of:(t:CT)->DV->Option t.D
 |.int k,.int k' n=>if k=k' then some n else none|.bool,.bool b=>some b.b|.str,.str s=>some s|.ifc,.ifc b=>some b|.sl r,.nil .own=>some ([]:List r.D)|.sl r,.sl .own r' l=>HS (r':=r') (r:=r) l|.slf r,.nil .Z'=>some ([]:List r.D)|.slf r,.sl .Z' r' l=>HS (r':=r') (r:=r) l|_,_=>none
def RT.of:(r:RT)->List DV->Option r.D
 |.one t,[v]=>t.of v| .cons t r,v::vs=>(match t.of v,r.of vs with
   |some x,some y=>some (x,y)
   |_,_=>none)
 |_,_=>none
def CT.ofA:(t:CT)->DV->Option t.D
 |.int k,.int k' n=>if k=k' then some n else none|.bool,.bool b=>some b.b|.str,.str s=>some s|.ifc,.ifc b=>some b|.sl r,.nil _=>some ([]:List r.D)|.sl r,.sl _ r' l=>HS (r':=r') (r:=r) l|.slf r,.nil _=>some ([]:List r.D)|.slf r,.sl _ r' l=>HS (r':=r') (r:=r) l|_,_=>none
def RT.ofA:(r:RT)->List DV->Option r.D
 |.one t,[v]=>t.ofA v| .cons t r,v::vs=>(match t.ofA v,r.ofA vs with
   |some x,some y=>some (x,y)
   |_,_=>none)
 |_,_=>none
def DV.ty:DV->Option CT
 |.int k _=>some (.int k)|.bool _=>some .bool|.str _=>some .str|.ifc _=>some .ifc|.sl _ r _=>some (.sl r)|_=>none
def e8:List DV->Option RT
 |[]=>none|[v]=>v.ty.map .one| v::r=>(match v.ty,e8 r with
   |some t,some r=>some (.cons t r)
   |_,_=>none)
mutual
def CT.pl:CT->Bool
 |.sl r=>r.pl|.slf _=>false|_=>true
def RT.pl:RT->Bool
 |.one t=>t.pl|.cons t r=>t.pl&&r.pl
end
mutual
def CT.nrm:CT->CT
 |.sl r=>.sl r.nrm|.slf r=>.sl r.nrm|t=>t
def RT.nrm:RT->RT
 |.one t=>.one t.nrm|.cons t r=>.cons t.nrm r.nrm
end
mutual
theorem CT.D_nrm:∀t:CT,t.nrm.D=t.D
 |.int _|.bool|.str|.ifc=>rfl
 |.sl r=>congrArg List (RT.D_nrm r)
 |.slf r=>congrArg List (RT.D_nrm r)
theorem RT.D_nrm:∀r:RT,r.nrm.D=r.D
 |.one t=>CT.D_nrm t
 | .cons t r=>by
   show (t.nrm.D×r.nrm.D)=(t.D×r.D);rw[CT.D_nrm t,RT.D_nrm r]
end
def Yn(r:RT)(l:List r.D):List r.nrm.D:=(congrArg List (RT.D_nrm r).symm).mp l
def DV.nrm1:DV->DV
 |.sl .Z' r l=>if r.pl then .sl .Z' r l else .sl .Z' r.nrm (Yn r l)|v=>v
def DV.nrmA:List DV->List DV
 |[]=>[]|v::r=>v.nrm1::DV.nrmA r
def DV.nrm:DV->DV
 |.agg cs=>.agg (DV.nrmA cs)|v=>v.nrm1
def DV.nrmV:List DV->List DV
 |[]=>[]|v::r=>v.nrm::DV.nrmV r
def DV.cells:DV->List DV
 |.agg cs=>cs|v=>[v]
def Ql.own':Ql->Bool
 |.own|.i6 _=>true|_=>false
def Ql.bor' (hd:Hd):Ql->Bool
 |.g_ h _ _=>h == hd|.pre h _=>h == hd|_=>false
mutual
def DV.own:DV->Bool
 |.nil q=>q.own'|.sl q _ _=>q.own'|.agg cs=>DV.ownL cs|.f7 vs=>DV.ownL vs|_=>false
def DV.ownL:List DV->Bool
 |[]=>false|v::r=>v.own||DV.ownL r
end
mutual
def DV.g_(hd:Hd):DV->Bool
 |.nil q=>q.bor' hd|.sl q _ _=>q.bor' hd|.ep q _ _ _ _=>q.bor' hd|.agg cs=>DV.borL hd cs|.f7 vs=>DV.borL hd vs|_=>false
def DV.borL(hd:Hd):List DV->Bool
 |[]=>false|v::r=>v.g_ hd||DV.borL hd r
end
mutual
def DV.hold:DV->Bool
 |.nil q=>(match q with|.Z'=>false|_=>true)
 |.sl q _ _=>(match q with|.Z'=>false|_=>true)
 |.ep q _ _ _ _=>(match q with|.Z'=>false|_=>true)
 |.agg cs=>DV.holdL cs|.f7 vs=>DV.holdL vs|_=>false
def DV.holdL:List DV->Bool
 |[]=>false|v::r=>v.hold||DV.holdL r
end
mutual
def DV.fz:DV->DV
 |.nil _=>.nil .Z'|.sl _ r l=>.sl .Z' r l|.ep _ r l j o=>.ep .Z' r l j o|.agg cs=>.agg (DV.fzL cs)|.f7 vs=>.f7 (DV.fzL vs)|v=>v
def DV.fzL:List DV->List DV
 |[]=>[]|v::r=>v.fz::DV.fzL r
end
def Ql.detop:Ql->Ql
 |.g_ h p _=>.g_ h p false|.pre h p=>.g_ h p false|q=>q
mutual
def DV.detop:DV->DV
 |.nil q=>.nil q.detop|.sl q r l=>.sl q.detop r l|.ep q r l j o=>.ep q.detop r l j o|.agg cs=>.agg (DV.detopL cs)|.f7 vs=>.f7 (DV.detopL vs)|v=>v
def DV.detopL:List DV->List DV
 |[]=>[]|v::r=>v.detop::DV.detopL r
end
mutual
def DV.q_:DV->Bool
 |.ptr _ _=>true|.agg cs=>DV.hasPtrL cs|.f7 vs=>DV.hasPtrL vs|_=>false
def DV.hasPtrL:List DV->Bool
 |[]=>false|v::r=>v.q_||DV.hasPtrL r
end
mutual
def DV.deep:DV->Bool
 |.undef|.bool _|.int _ _|.str _|.ifc _=>true|.nil q=>q.own'|.sl q r _=>q.own'&&r.pl|.agg cs=>DV.deepL cs|.f7 vs=>DV.deepL vs|.ptr _ _=>true|_=>false
def DV.deepL:List DV->Bool
 |[]=>true|v::r=>v.deep&&DV.deepL r
end
def DV.cell:DV->Bool
 |.bool _|.int _ _|.str _|.ifc _=>true|.nil q=>(match q with|.own|.Z'|.i6 _=>true|_=>false)
 |.sl q _ _=>(match q with|.own|.Z'|.i6 _=>true|_=>false)
 |_=>false
def DN:List DV->Bool
 |[]=>true|v::r=>v.cell&&DN r
def DV.argc:DV->Bool
 |.bool _|.int _ _|.str _|.ifc _|.nil _|.sl _ _ _|.ptr _ _=>true|_=>false
def X7:List DV->Bool
 |[]=>true|v::r=>v.argc&&X7 r
def DV.argok:DV->Bool
 |.agg cs=>X7 cs|v=>v.argc
def IJ:List DV->Bool
 |[]=>true|v::r=>v.argok&&IJ r
def DV.retc:DV->Bool
 |.ptr _ _=>true|v=>v.cell
def JM:List DV->Bool
 |[]=>true|v::r=>v.retc&&JM r
def DV.retok:DV->Bool
 |.agg cs=>JM cs|v=>v.retc
def CT.flat:CT->Bool
 |.sl _=>false|.slf _=>false|_=>true
def RT.flat:RT->Bool
 |.one t=>t.flat|.cons t r=>t.flat&&r.flat
structure DC where
 d:Bool
 v:DV
structure DS where
 sl:List DC
 bx:List (List DC)
 hp:List (List DC)
def Bs:List DC->Nat->DV
 |[],_=>.any|x::_,0=>x.v|_::r,n+1=>Bs r n
def Dz:List DC->Nat->DV->List DC
 |[],_,_=>[]|_::r,0,v=>⟨true,v⟩::r|x::r,n+1,v=>x::Dz r n v
def B0:List (List DC)->Nat->List DC
 |[],_=>[]|x::_,0=>x|_::r,n+1=>B0 r n
def F1:List (List DC)->Nat->List DC->List (List DC)
 |[],_,_=>[]|_::r,0,v=>v::r|x::r,n+1,v=>x::F1 r n v
def JD:List DC->Nat->List DV->List DC
 |cs,_,[]=>cs|[],_,_::_=>[]|_::r,0,v::vs=>⟨true,v⟩::JD r 0 vs|c::r,n+1,v::vs=>c::JD r n (v::vs)
def MF:List DV->Nat->List DV->List DV
 |cs,_,[]=>cs|[],_,_::_=>[]|_::r,0,v::vs=>v::MF r 0 vs|c::r,n+1,v::vs=>c::MF r n (v::vs)
def Hh:List DV->Nat->DV
 |[],_=>.any|x::_,0=>x|_::r,n+1=>Hh r n
def QL:List DV->Nat->DV->List DV
 |[],_,_=>[]|_::r,0,v=>v::r|x::r,n+1,v=>x::QL r n v
def Cg:List DV->Nat->Nat->List DV
 |_,0,0=>[]|[],_,_=>[]|c::r,0,n+1=>c::Cg r 0 n|_::r,o+1,n=>Cg r o n
def Cn:List DC->List DV
 |[]=>[]|c::r=>c.v::Cn r
def news:List DV->List DC
 |[]=>[]|v::r=>⟨true,v⟩::news r
def DA(hd:Hd):List DC->List DC
 |[]=>[]|c::r=>(if c.v.g_ hd then ⟨true,.any⟩else c)::DA hd r
def DV.isBox(i:Nat):DV->Bool
 |.box j _=>i == j|_=>false
def R8(i:Nat):List DC->List DC
 |[]=>[]|c::r=>(if c.v.isBox i then ⟨true,.any⟩else c)::R8 i r
def X8(live:List Nat):Nat->List DC->List DC
 |_,[]=>[]|n,c::r=>(if live.contains n then c else ⟨true,.any⟩)::X8 live (n+1) r
def clean:List DC->List DC
 |[]=>[]|c::r=>⟨false,c.v⟩::clean r
def Qv:List (List DC)->List (List DC)
 |[]=>[]|b::r=>clean b::Qv r
def DS.clean(st:DS):DS:=⟨Go.Ag.clean st.sl,Qv st.bx,Qv st.hp⟩
def eR:List DC->List PV
 |[]=>[]|c::r=>c.v.enc::eR r
def eP:List (List DC)->List (List PV)
 |[]=>[]|b::r=>eR b::eP r
def DS.enc(st:DS):PS:=⟨eR st.sl,eP st.bx,eP st.hp⟩
inductive PX where
 |tt|ff|p (h:Prop)|and (a b:PX)|ite (c:Bool) (a b:PX)
def PX.den:PX->Prop
 |.tt=>True|.ff=>False|.p h=>h|.and a b=>a.den/\b.den|.ite c a b=>(c=true->a.den)/\(c=false->b.den)
def PX.land:PX->PX->PX
 |.tt,b=>b|.ff,_=>.ff|a,.tt=>a|a,b=>.and a b
def PX.if' (c:Bool):PX->PX->PX
 |.tt,.tt=>.tt|a,b=>.ite c a b
def JV:V->DV
 |.b_=>.nil .own|.f7 []=>.f7 []|.bool b=>.bool (.lit b)|.int k n=>.int k n|.str s=>.str s|.ifc b=>.ifc b|_=>.undef
def Hm:List V->List DV
 |[]=>[]|v::r=>JV v::Hm r
def T_.dev(s:List DC):T_->DV
 |.t n=>Bs s n|.c v=>JV v
end
abbrev JW:=List UInt8
abbrev B3:=List Int
abbrev Ar:=Int×Int
abbrev Na:=Bool×Int
abbrev Dr:=Int×Ar
abbrev EM:=B3×Int
abbrev BE:=Int×B3
abbrev OC:=List Ar
abbrev Cw:=Int×Dr
abbrev Yj:=B3×B3
abbrev Cj:=List Dr
abbrev Ye:=Int×BE
abbrev MY:=B3×Ar
abbrev B8:=List BE
abbrev Dc:=Int×Cw
abbrev Dp:=List Cw
abbrev CA:=List Cj
abbrev Jc:=OC×Int
abbrev Bg:=List Dc
abbrev Cv:=List Dp
abbrev LR:=Cj×Int
abbrev pq:=OC×Ar
abbrev pc:=B8×Int
abbrev LQ:=Dp×Int
abbrev G8:=CA×Int
abbrev pf:=Dr×Dr
abbrev Oz:=BE×BE
abbrev DR:=Bg×Int
abbrev Ya:=Int×Bg
abbrev LG:=Cv×Int
abbrev B1:=Int×Cv
abbrev Tx:=BE×OC
abbrev eE:=Cw×Cw
abbrev OA:=BE×B8
abbrev Yf:=B1×Int
abbrev pG:=Cj×Cj
abbrev pH:=Bg×Dr
abbrev pz:=B8×B8
abbrev pk:=Dc×Dc
abbrev JR:=B1×Ar
abbrev pA:=Dp×Dp
abbrev pR:=CA×CA
abbrev JU:=Bg×Cj
abbrev FZ:=Bg×Bg
abbrev pS:=Cv×Cv
abbrev pJ:=B1×B1
abbrev BS:=Int×Cv×CA×Int×Bg×Int×Bool
abbrev LN:=BS×Int
abbrev Ep:=BS×Int×Bool
abbrev QJ:=BS×eE
abbrev pQ:=BS×BS
abbrev Ad:V:=.int .i64 0
abbrev ZjK:V:=.int .i64 1
abbrev EO:V:=.bool false
abbrev ZjJ:V:=.bool true
abbrev AL:T_:=.c Ad
abbrev AA:T_:=.c ZjK
abbrev As:T_:=.c EO
abbrev AV:T_:=.c ZjJ
abbrev AN:Ql×CT:=(.own,.int .i64)
abbrev Au:Ql×CT:=(.Z',.int .i64)
noncomputable section
mutual
def DV.ok:DV->Bool
 |.any=>false|.agg cs=>DV.okL cs|.f7 vs=>DV.okL vs|_=>true
def DV.okL:List DV->Bool
 |[]=>true|v::r=>v.ok&&DV.okL r
end
def DS.put(st:DS)(d:Option Nat)(v:DV):DS:=
 match d with
 |none=>st|some d=>if v.own then { st with sl:=DA (.s d) (Dz st.sl d v) }else { st with sl:=Dz st.sl d v }
def TH(v:DV)(n:Nat)(st:DS):DV×DS:=if v.own then (if v.g_ (.s n)then (.any,st)else (v,{ st with sl:=DA (.s n) (Dz st.sl n .any) }))else (v,st)
def Bv(x:T_)(st:DS):DV×DS:=match x with
 |.c v=>(JV v,st)|.t n=>TH (Bs st.sl n) n st
def TK(v:DV)(n:Nat)(st:DS):DV×DS:=if v.own then (if v.retok then (v.fz,{ st with sl:=DA (.s n) (Dz st.sl n v.fz) })else (.any,st))else (v,st)
def Fm(x:T_)(st:DS):DV×DS:=match x with
 |.c v=>(JV v,st)|.t n=>TK (Bs st.sl n) n st
def DV.S_:DV->List Nat->DV
 |.agg cs,[c]=>Hh cs c|.agg _,_=>.any|.f7 vs,[i,c]=>Hh (Hh vs i).cells c|.f7 _,_=>.any|v,[0]=>v|_,_=>.any
def DV.setc:DV->List Nat->DV->DV
 |.agg cs,[c],w=>.agg (QL cs c w)|.agg cs,_,_=>.agg cs|.f7 vs,_,_=>.f7 vs|_,[0],w=>w|v,_,_=>v
def Cc(st:DS):Hd->List Nat->DV
 |.s t,p=>(Bs st.sl t).S_ p|.b i,[c]=>Bs (B0 st.bx i) c|.h i,[c]=>Bs (B0 st.hp i) c|_,_=>.any
def HP(st:DS)(v:DV):Hd->List Nat->DS
 |.s t,p=>{ st with sl:=DA (.s t) (Dz st.sl t ((Bs st.sl t).setc p v)) }|.b i,[c]=>{ st with sl:=DA (.b i) st.sl,bx:=F1 st.bx i (Dz (B0 st.bx i) c v) }|.h i,[c]=>{ st with sl:=DA (.h i) st.sl,hp:=F1 st.hp i (Dz (B0 st.hp i) c v) }|_,_=>st
def Ql.brw(hd:Hd)(p:List Nat):Ql->Ql
 |.own=>.g_ hd p true|.i6 _=>.pre hd p|q=>q
def eI(hd:Hd)(p:List Nat):DV->DV
 |.sl q r l=>.sl (q.brw hd p) r l|.nil q=>.nil (q.brw hd p)|v=>v
def JP(hd:Hd):Nat->List DV->List DV
 |_,[]=>[]|c,v::r=>eI hd [c] v::JP hd (c+1) r
def eD(hd:Hd):DV->DV
 |.agg cs=>.agg (JP hd 0 cs)|.f7 vs=>if DV.ownL vs then .undef else .f7 vs|v=>eI hd [0] v
def Lu(x:T_)(st:DS):DV×DS:=match x with
 |.c v=>(JV v,st)|.t n=>(eD (.s n) (Bs st.sl n),st)
def OG:Ql->Option Ql
 |.Z'=>some .Z'|.g_ hd _ _=>some (.g_ hd [] false)|.pre hd _=>some (.g_ hd [] false)|_=>none
def QC:List DV->List DV
 |[]=>[]|v::r=>(if v.own then .any else v)::QC r
def FR(n:Option Nat)(cs:List DV):Option DV:=
 match n,cs with
 |some _,cs=>some (.agg cs)|none,[v]=>some v|none,_=>none
def Og(d:Nat):Option DV->Option (PX×Nat)
 |none=>some (.tt,d)|some (.int _ i)=>some (.p (0<=i),R_ i)|some _=>none
def JN:List DV->List (Nat×Nat×T_)->DS->Option (List DV×DS)
 |cs,[],st=>some (cs,st)| cs,(off,size,x)::r,st=>
   if (Bv x st).1.cells.length == size&&Nat.ble (off+size) cs.length&&DN (Bv x st).1.cells then JN (MF cs off (Bv x st).1.cells) r (Bv x st).2 else none
abbrev DO:=Option (PX×DV)
def Gz(v:DV):DO:=some (.tt,v)
def dI(k:IntKind)(n:Int):DO:=some (.tt,.int k n)
def dB(b:Bool):DO:=some (.tt,.bool (.dyn b))
def Xf(op:BinOp)(k:IntKind)(a b:Int):DO:=
 match op with
 |.add=>dI k (V' k a b)|.sub=>dI k (iSub k a b)|.mul=>dI k (iMul k a b)|.quo=>some (.p (b≠0),.int k (iQuo k a b))|.rem=>some (.p (b≠0),.int k (iRem a b))|.and=>dI k (iAnd k a b)|.or=>dI k (iOr k a b)|.xor=>dI k (iXor k a b)|.andNot=>dI k (iAndNot k a b)|.eql=>dB (g9 a b)|.neq=>dB (i_ a b)|.lss=>dB (c_ a b)|.leq=>dB (iLe a b)|.gtr=>dB (iGt a b)|.geq=>dB (iGe a b)|_=>none
def Xt(op:BinOp)(k:IntKind)(a b:Int):DO:=
 match op with
 |.shl=>some (.p (0<=b),.int k (iShl k a b))|.shr=>some (.p (0<=b),.int k (iShr k a b))|_=>none
def IntKind.same(k b:IntKind):Bool:=decide (k=b)
def QM(op:BinOp)(x y:DV):DO:=
 match x,y with
 | .int k a,.int k' b=>(match op with
   |.shl=>Xt .shl k a b
   |.shr=>Xt .shr k a b
   |op=>if IntKind.same k k' then Xf op k a b else none)
 | .str a,.str b=>(match op with
   |.add=>some (.p (a.length+b.length<=9223372036854775807),.str (sAdd a b))
   |.eql=>dB (sEq a b)
   |.neq=>dB (sNe a b)
   |_=>none)
 |_,_=>none
def BX.not:BX->BX
 |.lit b=>.lit (!b)|.dyn b=>.dyn (U' b)
def BX.eq:BX->BX->BX
 |.lit a,.lit b=>.lit (a == b)|.lit true,.dyn b=>.dyn b|.lit false,.dyn b=>.dyn (U' b)|.dyn a,.lit true=>.dyn a|.dyn a,.lit false=>.dyn (U' a)|.dyn a,.dyn b=>.dyn (bIff a b)
def Yk(g:Bool):DV->DV->DO
 |.bool a,.bool b=>Gz (.bool (if g then (a.eq b).not else a.eq b))|_,_=>none
def eL(b:Bool):DV->DO
 |.ifc a=>dB (if b then U' a else a)|_=>none
def Mt:List DV->List DV->Option BX
 |[],[]=>some (.lit true)|.int k a::x,.int k' b::y=>if IntKind.same k k' then (match x,y with
  |[],[]=>some (.dyn (g9 a b))
  |x,y=>(Mt x y).map λt=>.dyn (W_ (g9 a b) t.b))else none
 |_,_=>none
def Yt(n:Nat)(g:Bool):DV->DV->DO
 | .agg a,.agg b=>if a.length == n&&b.length == n then (match Mt a b with
   |some t=>Gz (.bool (if g then t.not else t))
   |none=>none)else none
 |_,_=>none
def eY(op:UnOp)(x:DV):DO:=
 match op,x with
 |.not,.bool b=>Gz (.bool b.not)|.neg,.int k n=>dI k (iNeg k n)|_,_=>none
def eB(k:IntKind):DV->DO
 |.int _ n=>dI k (iConv k n)|_=>none
def pN(_:DV):DO:=none
def qb(x:T_)(z:Bool)(q:Ql):Option Ql:=Fv x (if z then 0 else 1) q
def dh(w:Nat)(x:T_)(i hi:Option DV):DV->DO
 | .sl q r l=>(match Og 0 i,Og (lN l) hi with
   | some (g,a),some (g',b)=>if r.w == w then (match qb x i.isNone q with
     |some q'=>some ((g.land g').land (.p (a<=b/\b<=l.length/\0<l.length)),.sl q' r (lSub l a b))
     |none=>none)else none
   |_,_=>none)
 |_=>none
def mR(_ _:Option DV)(_:DV):DO:=none
def cU:DV->DO
 |.box i o=>Gz (.box i o)|.ptr i o=>Gz (.ptr i o)|.ep q r l j o=>Gz (.ep q r l j o)|_=>none
def cJ(off:Nat):DV->DO
 |.box i o=>Gz (.box i (o+off))|.ptr i o=>Gz (.ptr i (o+off))|.ep q r l j o=>Gz (.ep q r l j (o+off))|_=>none
def cY(off:Nat)(n:Option Nat)(x:T_):DV->DO
 | .agg cs=>(match x with
   |.t t=>if Nat.ble (off+n.getD 1) cs.length&&DV.okL (Cg cs off (n.getD 1))then (FR n (JP (.s t) off (Cg cs off (n.getD 1)))).map λv=>(.tt,v)else none
   |.c _=>none)
 |_=>none
def SK(w:Nat)(x:T_):DV->DV->DO
 | .sl q r l,.int _ j=>if r.w == w then (match Fw x q with
   |some q'=>some (.p (0<=j/\j<l.length),.ep q' r l (R_ j) 0)
   |none=>none)else none
 |.nil _,.int _ _=>none|_,_=>none
def oA(_ _:DV):DO:=none
def eM:DV->DO
 |.sl _ _ l=>dI .i64 (U_ l)|.nil _=>dI .i64 0|_=>none
def pU(_:DV):DO:=none
def eO:DV->DV->DO
 |.int .i64 a,.int .i64 b=>dI .i64 (iMin a b)|_,_=>none
def eT:DV->DV->DO
 |.int .i64 a,.int .i64 b=>dI .i64 (iMax a b)|_,_=>none
abbrev Ec:=Option (PX×DV×DS)
def MH(m:Bool)(i:Nat)(n:Option Nat)(a:DV)(st:DS):Ec:=
 match a with
 | .box j o=>
   let cs:=Cg (Cn (B0 st.bx i)) o (n.getD 1)
   if i == j&&Nat.ble (o+n.getD 1) (B0 st.bx i).length&&DV.okL cs then
    if m then (FR n cs).map λv=>(.tt,v,{ st with sl:=DA (.b i) st.sl,bx:=F1 st.bx i (JD (B0 st.bx i) o (QC cs)) })
    else (FR n (JP (.b i) o cs)).map λv=>(.tt,v,st)
   else none
 |_=>none
def LA(m:Bool)(n:Option Nat)(a:DV)(st:DS):Ec:=
 match a with
 | .ptr i o=>
   let cs:=Cg (Cn (B0 st.hp i)) o (n.getD 1)
   if Nat.blt i st.hp.length&&Nat.ble (o+n.getD 1) (B0 st.hp i).length&&DV.okL cs then
    if m then (FR n cs).map λv=>(.tt,v,{ st with sl:=DA (.h i) st.sl,hp:=F1 st.hp i (JD (B0 st.hp i) o (QC cs)) })
    else (FR n (JP (.h i) o cs)).map λv=>(.tt,v,st)
   else none
 | .ep q r l j o=>(match OG q with
   |some q'=>if Nat.ble (o+n.getD 1) r.w then (FR n (Cg (r.dv q' (So l j r.dflt)) o (n.getD 1))).map λv=>(.p (j<l.length),v,st)else none
   |none=>none)
 |_=>none
def SE(i n:Nat)(a x:T_)(g:DS):Ec:=
 match Bv x g with
 | (v, st)=>match a.dev g.sl with
   |.box j o=>if i == j&&Nat.blt i st.bx.length&&v.cells.length == n&&Nat.ble (o+n) (B0 st.bx i).length&&DN v.cells then
    some (.tt,.undef,{ st with sl:=if (!DV.okL (Cg (Cn (B0 st.bx i)) o n))||DV.ownL (Cg (Cn (B0 st.bx i)) o n)||v.own then DA (.b i) st.sl else st.sl,bx:=F1 st.bx i (JD (B0 st.bx i) o v.cells) })else none
   |_=>none
def SP(n:Nat)(a x:T_)(b:DS):Ec:=
 match Bv x b with
 | (v, st)=>match a.dev st.sl with
   |.ptr i o=>if Nat.blt i st.hp.length&&v.cells.length == n&&Nat.ble (o+n) (B0 st.hp i).length&&DN v.cells then
    some (.tt,.undef,{ st with sl:=if (!DV.okL (Cg (Cn (B0 st.hp i)) o n))||DV.ownL (Cg (Cn (B0 st.hp i)) o n)||v.own then DA (.h i) st.sl else st.sl,hp:=F1 st.hp i (JD (B0 st.hp i) o v.cells) })else none
   | .ep (.g_ hd [p] true) _ _ j o=>(match Cc st hd [p]with
     | .sl .own r l=>if v.cells.length == n&&Nat.ble (o+n) r.w&&DN v.cells then (match r.of (MF (r.dv .own (So l j r.dflt)) o v.cells)with
       |some y=>some (.p (j<l.length),.undef,HP st (.sl .own r (lSet l j y)) hd [p])
       |none=>none)else none
     |_=>none)
   |_=>none
def Of(_:Bool)(_:Option Nat)(_:DV)(_:DS):Option Ec:=none
def DV.nestX(i c:Nat):DV->Bool
 |.ep (.g_ (.b i') [c'] true) _ _ _ _=>i == i'&&c == c'|_=>false
def DV.nest(_:DV):Option (Hd×Nat×Nat×Nat×Nat):=none
def bW(_:Nat)(_:Hd)(_ _ _ _:Nat)(_:DV)(_:DS):Ec:=none
inductive DSrc where
 |nil|sl (r:RT) (l:List r.D)
def DSrc.w:DSrc->Nat->Bool
 |.nil,_=>true|.sl r _,w=>r.w == w
def DSrc.to(r:RT):DSrc->Option (List r.D)
 |.nil=>some []|.sl _ l=>HS l
def J3(w:Nat)(y:T_)(st:DS):Option (DSrc×DS):=
 match y.dev st.sl with
 |.str s=>if w == 1 then some (.sl (.one (.int .u8)) (sRow s),st)else none|.sl .own r l=>if r.w == w then some (.sl r l,(Bv y st).2)else none|.sl (.i6 _) _ _=>none|.sl _ r l=>if r.w == w&&r.flat then some (.sl r l,st)else none|.nil .own=>some (.nil,(Bv y st).2)|.nil _=>some (.nil,st)|_=>none
def M7(w:Nat)(x:T_)(b:DSrc)(st:DS):Ec:=
 if !(Nat.blt 0 w&&b.w w)then none else
 match x.dev st.sl with
 | .nil .own=>(match b with
   |.nil=>some (.tt,.nil .own,(Bv x st).2)
   |.sl r l=>some (.p (AD (l.length*w)),.sl .own r l,(Bv x st).2))
 | .sl .own r l=>if r.w == w then (match b.to r with
   |some n=>some (.p (AD ((l.length+n.length)*w)),.sl .own r (i9 l n),(Bv x st).2)
   |none=>none)else none
 | .sl (.g_ hd [c] true) r l=>(match Cc st hd [c]with
   | .sl .own rh lh=>if rh.w == w then (match b.to rh with
     |some n=>some (.p (l.length=lh.length/\AD ((lh.length+n.length)*w)),.sl .own rh (i9 lh n),HP st .undef hd [c])
     |none=>none)else none
   |_=>none)
 | .nil (.g_ hd [c] true)=>(match Cc st hd [c]with
   | .nil .own=>(match b with
     |.nil=>some (.tt,.nil .own,HP st .undef hd [c])
     |.sl r l=>some (.p (AD (l.length*w)),.sl .own r l,HP st .undef hd [c]))
   |_=>none)
 | .sl (.pre hd [c]) r l=>(match Cc st hd [c]with
   | .sl .own rh lh=>if rh.w == w then (match b.to rh with
     |some n=>some (.p (0<lh.length/\l.length<=lh.length/\0<l.length+n.length/\AD ((l.length+n.length)*w)),.sl .own rh (i9 (lTake lh (lN l)) n),HP st .undef hd [c])
     |none=>none)else none
   |_=>none)
 |_=>none
def MR(w:Nat)(b:DSrc)(st:DS):Ec:=
 match b with
 |.nil=>some (.tt,.nil (.i6 w),st)|.sl r l=>some (.p (AD (l.length*w)),.sl (.i6 w) r l,st)
def Tc(w:Nat)(x:T_)(b:DSrc)(st:DS):Ec:=
 if !(Nat.blt 0 w&&b.w w)then none else
 match x.dev st.sl with
 |.nil .own=>MR w b (Bv x st).2|.nil (.i6 w')=>if w' == w then MR w b (Bv x st).2 else none| .sl .own r l=>if r.w == w then (match b.to r with
   |some n=>some (.p (AD ((l.length+n.length)*w)),.sl (.i6 w) r (i9 l n),(Bv x st).2)
   |none=>none)else none
 | .sl (.i6 w') r l=>if w' == w&&r.w == w then (match b.to r with
   |some n=>some (.p (AD ((l.length+n.length)*w)),.sl (.i6 w) r (i9 l n),(Bv x st).2)
   |none=>none)else none
 | .sl (.pre hd [c]) r l=>(match Cc st hd [c]with
   | .sl .own rh lh=>if rh.w == w then (match b.to rh with
     |some n=>some (.p (0<lh.length/\l.length<=lh.length/\AD ((l.length+n.length)*w)),.sl (.i6 w) rh (i9 (lTake lh (lN l)) n),HP st .undef hd [c])
     |none=>none)else none
   | .sl (.i6 w') rh lh=>if w' == w&&rh.w == w then (match b.to rh with
     |some n=>some (.p (0<lh.length/\l.length<=lh.length/\AD ((l.length+n.length)*w)),.sl (.i6 w) rh (i9 (lTake lh (lN l)) n),HP st .undef hd [c])
     |none=>none)else none
   |_=>none)
 |_=>none
def TG(w:Nat):DV->Option DV
 |.nil .own=>some (.nil (.i6 w))|.nil (.i6 w')=>if w == 0||w' == w then some (.nil (.i6 w))else none|.sl .own r l=>if w == 0||r.w == w then some (.sl (.i6 w) r l)else none|.sl (.i6 w') r l=>if w == 0||w' == w then some (.sl (.i6 w) r l)else none|_=>none
def Yo:List (Nat×Nat)->List DV->Option (List DV)
 |[],l=>some l| (c,w)::r,l=>match TG w (Hh l c)with
   |some v=>Yo r (QL l c v)
   |none=>none
def OQ(ws:List (Nat×Nat)):DV->Option DV
 |.agg l=>(Yo ws l).map .agg| .nil q=>(match ws with
   |[(0,w)]=>TG w (.nil q)
   |_=>none)
 | .sl q r l=>(match ws with
   |[(0,w)]=>TG w (.sl q r l)
   |_=>none)
 |_=>none
def Qk(r:RT)(w:Nat):Nat->List DV->Option (List r.D)
 |0,_=>some []| n+1,cs=>(match r.of (cs.take w),Qk r w n (cs.drop w)with
   |some x,some l=>some (x::l)
   |_,_=>none)
def HF:List V->Bool
 |[]=>true|v::r=>v.flat&&HF r
def QD(o:o_)(e:T_->DV):DO:=
 match o with
 |.z_ x=>cU (e x)|.bin op x y=>QM op (e x) (e y)|.eqB neg x y=>Yk neg (e x) (e y)|.eqN neg x y=>(match y with|.c (.ifc true)=>eL neg (e x)|_=>none)
 |.eqA n neg x y=>Yt n neg (e x) (e y)|.un op x=>eY op (e x)|.conv k x=>eB k (e x)|.bstr x=>pN (e x)|.slice w x lo hi=>dh w x (lo.map e) (hi.map e) (e x)|.substr x lo hi=>mR (lo.map e) (hi.map e) (e x)|.f5 off a=>cJ off (e a)|.field off n x=>cY off n x (e x)|.p_ w x i=>SK w x (e x) (e i)|.index x i=>oA (e x) (e i)|.len x=>eM (e x)|.lenT x=>pU (e x)|.minI x y=>eO (e x) (e y)|.maxI x y=>eT (e x) (e y)|_=>none
def Bz (m:Bool)(o:o_)(ty:Option RT)(st:DS):Ec:=
 let e (x:T_):=x.dev st.sl
 let g (r:DV×DS):Ec:=if r.1.ok then some (.tt,r.1,r.2)else none
 match o with
 |.mv x=>g (if m then Lu x st else Bv x st)|.e_ i zs=>if Nat.blt i st.bx.length&&HF zs then some (.tt,.box i 0,{ st with sl:=DA (.b i) (R8 i st.sl),bx:=F1 st.bx i (news (Hm zs)) })else none| .boxB i n x=>(match Bv x st with
   |(v,st)=>if Nat.blt i st.bx.length&&v.cells.length == n&&DN v.cells then some (.tt,.box i 0,{ st with sl:=DA (.b i) (R8 i st.sl),bx:=F1 st.bx i (news v.cells) })else none)
 |.allocH zs=>if HF zs then some (.tt,.ptr st.hp.length 0,{ st with sl:=DA (.h st.hp.length) st.sl,hp:=st.hp++[news (Hm zs)] })else none| .boxH n x=>(match Bv x st with
   |(v,st)=>if v.cells.length == n&&DN v.cells then some (.tt,.ptr st.hp.length 0,{ st with sl:=DA (.h st.hp.length) st.sl,hp:=st.hp++[news v.cells] })else none)
 | .build zs ps=>if HF zs then (match JN (Hm zs) ps st with
   |some (cs,st)=>some (.tt,.agg cs,st)
   |none=>none)else none
 | .mkSlice w z len=>(match e len with
   | .int .i64 n=>(match (match ty with|some r=>some r|none=>e8 (Hm z))with
     | some r=>(match r.of (Hm z)with
       |some d=>if z.length == w&&r.w == w&&Nat.blt 0 w&&HF z then some (.p (0<=n/\AD (n.toNat*w)),.sl .own r (lRep n d),st)else none
       |none=>none)
     |none=>none)
   |_=>none)
 | .d5 w n zs ps=>
   if n == 0 then some (.tt,(match ty with|some r=>.sl .own r []|none=>.nil .own),st)
   else if HF zs&&zs.length == n*w&&Nat.blt 0 w then (match JN (Hm zs) ps st with
    | some (cs,st)=>(match (match ty with|some r=>some r|none=>e8 (cs.take w))with
      | some r=>if r.w == w then (match Qk r w n cs with
        |some l=>some (.tt,.sl .own r l,st)
        |none=>none)else none
      |none=>none)
    |none=>none)
   else none
 |.d7 i n a=>MH m i n (e a) st| .i5 n a=>(match Of m n (e a) st with
   |some r=>r
   |none=>LA m n (e a) st)
 | .loadX i c n a=>if (e a).nestX i c then (match Of m n (e a) st with
   |some r=>r
   |none=>none)else none
 |.V_ i n a x=>SE i n a x st| .f8 n a x=>if (e a).ok then (match (e a).nest with
   |some (hd,p,k,j,o)=>bW n hd p k j o (e x) st
   |none=>SP n a x st)else none
 | .app w x y=>(match J3 w y st with
   |some (new,st)=>M7 w x new st
   |none=>none)
 | .appN w x y=>(match x.dev st.sl with
   | .nil .own=>(match J3 w y st with
     |some (new,st)=>M7 w x new st
     |none=>none)
   |_=>none)
 | .extract x i=>(match x with
   | .t t=>(match Bs st.sl t with
     |.f7 vs=>if Nat.blt i vs.length&&(Hh vs i).ok then (if (Hh vs i).own then (if (Hh vs i).g_ (.s t)then none else some (.tt,Hh vs i,{ st with sl:=DA (.s t) (Dz st.sl t (.f7 (QL vs i .undef))) }))else some (.tt,Hh vs i,st))else none
     |_=>none)
   |.c _=>none)
 |.pick ..=>none|.callB ..=>none|o=>(QD o e).map λr=>(r.1,r.2,st)
def Ol(ws:List (Nat×Nat))(m:Bool)(o:o_)(ty:Option RT)(st:DS):Ec:=
 match o with
 | .app w x y=>(match ws with
   | [(0,w')]=>if w' == w then (match J3 w y st with
     |some (new,st)=>Tc w x new st
     |none=>none)else none
   |_=>none)
 | o => (match Bz m o ty st with
   | some (g,v,st)=>(match OQ ws v with
     |some v=>some (g,v,st)
     |none=>none)
   |none=>none)
end
noncomputable section
def Ym(c:Bool):BX->BX->BX
 |.lit true,.lit true=>.lit true|.lit false,.lit false=>.lit false|.lit true,.lit false=>.dyn c|.lit false,.lit true=>.dyn (U' c)|.lit true,.dyn y=>.dyn (w_ c y)|.lit false,.dyn y=>.dyn (W_ (U' c) y)|.dyn x,.lit true=>.dyn (w_ (U' c) x)|.dyn x,.lit false=>.dyn (W_ c x)|.dyn x,.dyn y=>.dyn (Y_ c x y)
def D5(q q':Ql):Bool:=decide (q=q')
mutual
def DB(c:Bool):DV->DV->DV
 |.undef,.undef=>.undef|.bool x,.bool y=>.bool (Ym c x y)|.int k x,.int k' y=>if IntKind.same k k' then .int k (Y_ c x y)else .any|.str x,.str y=>.str (Y_ c x y)|.ifc x,.ifc y=>.ifc (Y_ c x y)|.nil q,.nil q'=>if D5 q q' then .nil q else .any|.nil q,.sl q' r l=>if D5 q q' then .sl q r (Y_ c [] l)else .any|.sl q r l,.nil q'=>if D5 q q' then .sl q r (Y_ c l [])else .any| .sl q r l,.sl q' r' l'=>if D5 q q' then (match HS (r':=r') (r:=r) l' with
   |some l'=>.sl q r (Y_ c l l')
   |none=>.any)else .any
 |.box i o,.box i' o'=>if i == i'&&o == o' then .box i o else .any|.ptr i o,.ptr i' o'=>if i == i'&&o == o' then .ptr i o else .any|.agg x,.agg y=>if x.length == y.length&&DV.okL (LJ c x y)then .agg (LJ c x y)else .any|.f7 x,.f7 y=>if x.length == y.length&&DV.okL (LJ c x y)then .f7 (LJ c x y)else .any|_,_=>.any
def LJ(c:Bool):List DV->List DV->List DV
 |x::a,y::b=>DB c x y::LJ c a b|_,_=>[]
end
def Yq(c:Bool)(x y:DC):DC:=if x.d||y.d then ⟨true,DB c x.v y.v⟩else x
def Tz(c:Bool):List DC->List DC->List DC
 |x::a,y::b=>Yq c x y::Tz c a b|_,_=>[]
def Tq(c:Bool):List (List DC)->List (List DC)->List (List DC)
 |x::a,y::b=>(if x.length == y.length then Tz c x y else [])::Tq c a b|_,_=>[]
def OB(c:Bool)(x y:DS):Option DS:=if x.sl.length == y.sl.length&&x.bx.length == y.bx.length&&x.hp.length == y.hp.length then some ⟨Tz c x.sl y.sl,Tq c x.bx y.bx,Tq c x.hp y.hp⟩else none
def QP:List DC->List DC->List DC
 |x::a,y::b=>⟨x.d||y.d,y.v⟩::QP a b|_,r=>r
def TL:List (List DC)->List (List DC)->List (List DC)
 |x::a,y::b=>QP x y::TL a b|_,r=>r
def M4(x y:DS):DS:=⟨QP x.sl y.sl,TL x.bx y.bx,TL x.hp y.hp⟩
inductive DT where
 |leaf (e:AExit) (st:DS)|node (c:Bool) (a b:DT)|chk (g:PX) (t:DT)|bad
inductive NS where
 |none|some (st:DS)|fail
def DT.norm:DT->NS
 |.leaf .normal st=>.some st|.leaf _ _=>.none| .node c a b=>(match a.norm,b.norm with
   |.none,y=>y
   |x,.none=>x
   | .some x,.some y=>(match OB c x y with
     |some z=>.some z
     |none=>.fail)
   |_,_=>.fail)
 |.chk _ t=>t.norm|.bad=>.none
def DT.nn:DT->Nat
 |.leaf .normal _=>1|.node _ a b=>a.nn+b.nn|.chk _ t=>t.nn|_=>0
def DT.cont:DT->Option BX
 |.leaf .normal _=>some (.lit true)|.leaf _ _=>some (.lit false)| .node c a b=>(match a.cont,b.cont with
   |none,y=>y
   |x,none=>x
   |some x,some y=>some (Ym c x y))
 |.chk _ t=>t.cont|.bad=>none
def DT.ok:DT->PX
 |.leaf _ _=>.tt|.node c a b=>PX.if' c a.ok b.ok|.chk g t=>g.land t.ok|.bad=>.ff
def DT.nodeB(c:Bool):DT->DT->DT
 |.bad,b=>b|a,.bad=>a|a,b=>.node c a b
def DT.drop:DT->DT
 |.leaf .normal _=>.bad|.leaf e st=>.leaf e st|.node c a b=>DT.nodeB c a.drop b.drop|.chk _ t=>t.drop|.bad=>.bad
def DT.map(f:DS->DS):DT->DT
 |.leaf e st=>.leaf e (f st)|.node c a b=>.node c (a.map f) (b.map f)|.chk g t=>.chk g (t.map f)|.bad=>.bad
def DT.bind(f:DS->DT)(h:DS->DS):DT->DT
 |.leaf .normal st=>f st|.leaf e st=>.leaf e (h st)|.node c a b=>.node c (a.bind f h) (b.bind f h)|.chk g t=>.chk g (t.bind f h)|.bad=>.bad
def DT.unexit(i:Nat):DT->DT
 |.leaf (.exit j) st=>if j == i then .leaf .normal st else .leaf (.exit j) st|.leaf e st=>.leaf e st|.node c a b=>.node c (a.unexit i) (b.unexit i)|.chk g t=>.chk g (t.unexit i)|.bad=>.bad
def DT.chk':PX->DT->DT
 |.tt,t=>t|g,t=>.chk g t
def DT.then(f:DS->DT)(h:DS->DS)(t:DT):DT:=
 if Nat.ble t.nn 1 then t.bind f h
 else match t.norm with
  | .some m=>DT.chk' t.ok (match t.cont with
    |some (.dyn c)=>.node c (f m) (t.drop.map h)
    |some (.lit true)=>f m
    |_=>.bad)
  |_=>t.bind f h
section
variable {X:Type}
inductive LoopTo (c:X->Bool) (f:X->X) (p:X->Prop):X->X->Prop
 |stop {x:X}:p x->c x=false->LoopTo c f p x x|go {x y:X}:p x->c x=true->LoopTo c f p (f x) y->LoopTo c f p x y
def Z_(c:X->Bool)(f:X->X)(p:X->Prop)(x:X):Prop:=∃y,LoopTo c f p x y
open Classical in
def Al(c:X->Bool)(f:X->X)(x:X):X:=if h:∃y,LoopTo c f (λ_=>True) x y then Classical.choose h else x
theorem LoopTo.fst{c:X->Bool}{f:X->X}{p q:X->Prop}{x y z:X}(h:LoopTo c f p x y)(h':LoopTo c f q x z):y=z:=by
 induction h with
 | stop _ h1=>
   cases h' with
   |stop=>rfl
   |go _ b=>rw[h1]at b;cases b
 | go _ h1 _ ih=>
   cases h' with
   |stop _ b=>rw[h1]at b;cases b
   |go _ _ g=>exact ih g
theorem LoopTo.mono{c:X->Bool}{f:X->X}{p q:X->Prop}(hp:∀x,p x->q x){x y:X}(h:LoopTo c f p x y):LoopTo c f q x y:=by
 induction h with
 |stop h0 h1=>exact .stop (hp _ h0) h1
 |go h0 h1 _ b=>exact .go (hp _ h0) h1 b
theorem LoopTo.val{c:X->Bool}{f:X->X}{p:X->Prop}{x y:X}(h:LoopTo c f p x y):Al c f x=y:=by
 have h':∃y,LoopTo c f (λ_=>True) x y:=⟨y,h.mono λ_ _=>trivial⟩;unfold Al;rw[dif_pos h'];exact(Classical.choose_spec h').fst h
theorem ZcM{c:X->Bool}{f:X->X}{x:X}(h:c x=false):Al c f x=x:=(LoopTo.stop (p:=λ_=>True) trivial h).val
theorem Z_.to{c:X->Bool}{f:X->X}{p:X->Prop}{x:X}(h:Z_ c f p x):LoopTo c f p x (Al c f x):=by
 obtain⟨y,h⟩:=h;rw[h.val];exact h
end
inductive Pl where
 |s (i:Nat)|b (i c:Nat)|h (i c:Nat)
inductive HT where
 |one (q:Ql) (t:CT)|agg (l:List (Ql×CT))
structure Hole where
 pl:Pl
 t:HT
def AgX:List (Ql×CT)->Type
 |[]=>Unit|[a]=>a.2.D|a::r=>a.2.D×AgX r
def HT.D:HT->Type
 |.one _ t=>t.D|.agg l=>AgX l
def H4:List Hole->Type
 |[]=>Unit|[a]=>a.t.D|a::r=>a.t.D×H4 r
def DS.at(st:DS):Pl->DV
 |.s i=>Bs st.sl i|.b i c=>Bs (B0 st.bx i) c|.h i c=>Bs (B0 st.hp i) c
def DS.wr(st:DS)(v:DV):Pl->DS
 |.s i=>{ st with sl:=Dz st.sl i v }|.b i c=>{ st with bx:=F1 st.bx i (Dz (B0 st.bx i) c v) }|.h i c=>{ st with hp:=F1 st.hp i (Dz (B0 st.hp i) c v) }
def CT.ofQ(q:Ql):(t:CT)->DV->Option t.D
 |.int k,.int k' n=>if IntKind.same k k' then some n else none|.bool,.bool b=>some b.b|.str,.str s=>some s|.ifc,.ifc b=>some b|.sl r,.nil q'=>if D5 q q' then some ([]:List r.D)else none|.sl r,.sl q' r' l=>if D5 q q' then HS (r':=r') (r:=r) l else none|_,_=>none
def HW:(l:List (Ql×CT))->List DV->Option (AgX l)
 |[],[]=>some ()|[a],[v]=>a.2.ofQ a.1 v| a::b::r,v::vs=>(match a.2.ofQ a.1 v,HW (b::r) vs with
   |some x,some y=>some (x,y)
   |_,_=>none)
 |_,_=>none
def C5:(l:List (Ql×CT))->AgX l->List DV
 |[],_=>[]|[a],x=>[a.2.dv a.1 x]|a::b::r,x=>a.2.dv a.1 x.1::C5 (b::r) x.2
def HT.of:(h:HT)->DV->Option h.D
 |.one q t,v=>t.ofQ q v|.agg l,.agg vs=>HW l vs|.agg _,_=>none
def HT.dv:(h:HT)->h.D->DV
 |.one q t,x=>t.dv q x|.agg l,x=>.agg (C5 l x)
def Nd(st:DS):(H:List Hole)->Option (H4 H)
 |[]=>some ()|[a]=>a.t.of (st.at a.pl)| a::b::r=>(match a.t.of (st.at a.pl),Nd st (b::r)with
   |some x,some y=>some (x,y)
   |_,_=>none)
def wrX(st:DS):(H:List Hole)->H4 H->DS
 |[],_=>st|[a],x=>st.wr (a.t.dv x) a.pl|a::b::r,x=>wrX (st.wr (a.t.dv x.1) a.pl) (b::r) x.2
def DV.same:DV->DV->Bool
 |.undef,.undef=>true|.nil q,.nil q'=>D5 q q'|.box i o,.box i' o'=>i == i'&&o == o'|.ptr i o,.ptr i' o'=>i == i'&&o == o'|_,_=>false
def DV.isAny:DV->Bool
 |.any=>true|_=>false
inductive Cls where
 |left|hole (t:HT)|kill
def qf:DV->DV->Option (Ql×CT)
 |.int k _,.int k' _=>if IntKind.same k k' then some (.own,.int k)else none|.bool _,.bool _=>some (.own,.bool)|.str _,.str _=>some (.own,.str)|.ifc _,.ifc _=>some (.own,.ifc)|.nil q,.sl q' r _=>if D5 q q' then some (q,.sl r)else none|.sl q r _,.nil q'=>if D5 q q' then some (q,.sl r)else none|.sl q r _,.sl q' r' _=>if D5 q q'&&RT.beq r' r then some (q,.sl r)else none|_,_=>none
def qa:List DV->List DV->Option (List (Ql×CT))
 |[],[]=>some []| x::a,y::b=>(match qf x y,qa a b with
   |some t,some l=>some (t::l)
   |_,_=>none)
 |_,_=>none
def qg(x:DV)(y:DC):Cls:=
 if y.d then (if x.isAny||x.same y.v then .left else match x,y.v with
  | .agg a,.agg b=>(match qa a b with
    |some l=>.hole (.agg l)
    |none=>.kill)
  | x,y=>(match qf x y with
    |some t=>.hole (.one t.1 t.2)
    |none=>.kill))else .left
def LV(g:Nat->Pl):Nat->List DC->List DC->List Hole×List DC
 | n,x::a,y::b=>(match qg x.v y,LV g (n+1) a b with
   |.left,(H,l)=>(H,x::l)
   |.hole t,(H,l)=>(⟨g n,t⟩::H,⟨true,.any⟩::l)
   |.kill,(H,l)=>(H,⟨true,.any⟩::l))
 |_,a,_=>([],a)
def OM(g:Nat->Nat->Pl):Nat->List (List DC)->List (List DC)->List Hole×List (List DC)
 | n,x::a,y::b=>(match OM g (n+1) a b with
   |(H,l)=>if x.length == y.length then (match LV (g n) 0 x y with|(H',x')=>(H'++H,x'::l))else (H,[]::l))
 |_,a,_=>([],a)
def TI(x y:DS):List Hole×DS:=
 match LV .s 0 x.sl y.sl,OM .b 0 x.bx y.bx,OM .h 0 x.hp y.hp with
 |(H1,s),(H2,b),(H3,h)=>(H1++H2++H3,⟨s,b,h⟩)
def TP:List DC->List DC->Bool
 |k::a,y::b=>(k.v.isAny||!y.d||k.v.same y.v)&&TP a b|[],[]=>true|_,_=>false
def TO:List (List DC)->List (List DC)->Bool
 |k::a,y::b=>(k.length == 0||TP k y)&&TO a b|[],[]=>true|_,_=>false
def eS(K y:DS):Bool:=TP K.sl y.sl&&TO K.bx y.bx&&TO K.hp y.hp
def P7(K:DS):List Hole->Bool
 |[]=>true|a::r=>(K.at a.pl).isAny&&P7 K r
def DV.top:DV->Bool
 |.sl (.g_ _ _ t) _ _=>t|.sl (.pre _ _) _ _=>true|.nil (.g_ _ _ t)=>t|.nil (.pre _ _)=>true|.ep (.g_ _ _ t) _ _ _ _=>t|.ep (.pre _ _) _ _ _ _=>true|.agg _=>true|.f7 _=>true|_=>false
mutual
def DV.hasTop:DV->Bool
 |.agg cs=>DV.hasTopL cs|.f7 cs=>DV.hasTopL cs|v=>v.top
def DV.hasTopL:List DV->Bool
 |[]=>false|v::r=>v.hasTop||DV.hasTopL r
end
def Xw (live:List Nat):Nat->List DC->List DC
 |_,[]=>[]|n,c::r=>(if live.contains n then (if c.v.hasTop then ⟨true,c.v.detop⟩else c)else ⟨true,.any⟩)::Xw live (n+1) r
def Er(live:List Nat)(st:DS):DS:={ st with sl:=Xw live 0 st.sl }
def Yd(live:List Nat)(st:DS):DS:={ st with sl:=X8 live 0 st.sl }
def Tv(live:List Nat)(body:DS->DT)(A:DS):Nat->DS->Option (List Hole×DS)
 | 0,cur=>(match (body cur).norm with
   |.some m=>some (TI A (Er live m))
   |_=>none)
 | n + 1,cur=>(match (body cur).norm with
   | .some m=>(match TI A (Er live m)with
     | (H,K)=>(match Nd A H with
       |some x0=>Tv live body A n (wrX K H x0)
       |none=>none))
   |_=>none)
def NS.isNone:NS->Bool
 |.none=>true|_=>false
section
variable (live:List Nat) (body:DS->DT) (K:DS) (H:List Hole)
def lT(x:H4 H):DT:=body (wrX K H x)
def QI(x:H4 H):Bool:=match (lT body K H x).cont with|some b=>b.b|none=>false
def QH(x:H4 H):H4 H:=match (lT body K H x).norm with
 |.some m=>(match Nd (Er live m) H with|some y=>y|none=>x)
 |_=>x
def pW(x:H4 H):PX:=(lT body K H x).ok.land (match (lT body K H x).norm with
 |.some m=>if eS K (Er live m)&&(Nd (Er live m) H).isSome then .tt else .ff|.none=>.tt|.fail=>.ff)
end
def QF (live:List Nat)(n:Nat)(body:DS->DT)(st:DS):DT:=
 if (body (Er live st)).norm.isNone then (body (Er live st)).map (M4 (Er live st))
 else match Tv live body (Er live st) n (Er live st)with
 |none=>.bad| some (H,K)=>(match Nd (Er live st) H with
   |none=>.bad
   | some x0=>if P7 K H then
      .chk (.p (Z_ (QI body K H) (QH live body K H) (λx=>(pW live body K H x).den) x0))
       ((lT body K H (Al (QI body K H) (QH live body K H) x0)).drop.map (M4 (wrX K H (Al (QI body K H) (QH live body K H) x0))))
     else .bad)
abbrev M6:=List DV->Option (PX×DV)
abbrev Gs:=List DV->List (List DV)->Option (PX×DV×List (List DV))
structure DMk where
 r:RT
 agg:Bool
 ok:r.D->Prop
 g:r.D->Int->r.D×Int
 vd:Bool
def DMk.P(M:DMk):PMk:=⟨M.agg,λAH m K=>∃x,AH=M.r.enc x/\M.ok x/\K (M.r.enc (M.g x m).1) (M.g x m).2,M.vd⟩
structure DTk where
 ra:RT
 row:RT
 ok:ra.D->List row.D->Prop
 sel:ra.D->List row.D->List Nat
 val:ra.D->List row.D->List row.D
 law:∀a l,ok a l->(sel a l).Pairwise (· < ·)/\(∀i∈sel a l,i<l.length)/\val a l=(sel a l).map λi=>l.getD i row.dflt
def DTk.P(M:DTk):PTk:=⟨M.row.w,λa es K=>∃x l,a=(PV.agg (M.ra.enc x)).fz.nrm/\es=l.map (RT.enc M.row)/\M.ok x l/\K (M.sel x l)⟩
inductive DOp where
 |a (m:Bool) (o:o_) (ty:Option RT)|aw (ws:List (Nat×Nat)) (m:Bool) (o:o_) (ty:Option RT)|call (m:Bool) (f:Bc) (p:Dd) (D:M6) (args:List T_)|mark (f:Bc) (M:DMk) (x k:T_)|tk (f:Bc) (M:DTk) (x y:T_)|callp (m:Bool) (f:Bc) (p:Dd) (D:Gs) (args:List T_)|callv (m:Bool) (f:Bc) (p:Dd) (D:Gs) (args:List T_) (i c:Nat)|fz (x:T_)|clm (a:T_) (t:Nat) (o:o_)|fzb (a:T_) (o:o_)
structure DOper where
 id:Nat
 dst:Option Nat
 op:DOp
 guard:Option (Nat×Bool)
 anc:List Nat
inductive d4 where
 |skip|region (ops:List DOper)|regionU (ops:List DOper)|seq (l:List Nat) (a b:d4)|cond (c:T_) (a b:d4)|block (id:Nat) (a:d4)|scope (a:d4)|loop (live:List Nat) (n:Nat) (a:d4)|exit (id:Nat)|ret
def DOp.er:DOp->POp
 |.a m o _=>.a m o|.aw ws m o _=>.aw ws m o|.call m f p _ args=>.callk m f p args|.mark f M x k=>.mark f M.P x k|.tk f M x y=>.tk f M.P x y|.callp m f p _ args=>.call m f p args|.callv m f p _ args i c=>.callv m f p args i c|.fz x=>.fz x|.clm x t o=>.clm x t o|.fzb x o=>.fzb x o
def DOper.er(o:DOper):POper:=⟨o.id,o.dst,o.op.er,o.guard,o.anc⟩
def d4.er:d4->PCode
 |.skip=>.skip|.region ops=>.region (ops.map DOper.er)|.regionU ops=>.regionU (ops.map DOper.er)|.seq l a b=>.seq l a.er b.er|.cond c a b=>.cond c a.er b.er|.block i a=>.block i a.er|.scope a=>.scope a.er|.loop l _ a=>.loop l a.er|.exit i=>.exit i|.ret=>.ret
@[reducible] def oa (i d:Nat) (o:o_):DOper:=⟨i,some d,.a false o none,none,[]⟩
@[reducible] def ob (i d:Nat) (o:o_):DOper:=⟨i,some d,.a true o none,none,[]⟩
@[reducible] def om (i d t:Nat):DOper:=⟨i,some d,.a false (.mv (.t t)) none,none,[]⟩
@[reducible] def on (i d t:Nat):DOper:=⟨i,some d,.a true (.mv (.t t)) none,none,[]⟩
@[reducible] def oi (i d:Nat) (n:Int):DOper:=⟨i,some d,.a false (.mv (.c (.int .i64 n))) none,none,[]⟩
@[reducible] def os (i:Nat) (o:o_):DOper:=⟨i,none,.a false o none,none,[]⟩
@[reducible] def og (i d:Nat) (o:o_) (g:Nat) (b:Bool):DOper:=⟨i,some d,.a false o none,some (g,b),[]⟩
@[reducible] def xA (i d:Nat) (o:o_) (a:List Nat):DOper:=⟨i,some d,.a false o none,none,a⟩
@[reducible] def xB (i d:Nat) (o:o_) (a:List Nat):DOper:=⟨i,some d,.a true o none,none,a⟩
@[reducible] def xS (i:Nat) (o:o_) (a:List Nat):DOper:=⟨i,none,.a false o none,none,a⟩
@[reducible] def op (i d:Nat) (f:Bc) (p:Dd) (D:Gs) (args:List T_):DOper:=⟨i,some d,.callp false f p D args,none,[]⟩
def oW:Nat->Nat->List Nat
 |_,0=>[]|k,n+1=>k::oW (k+1) n
def rg(n:Nat):List Nat:=oW 0 n
def EZ:List T_->DS->DS
 |[],st=>st|x::r,st=>EZ r (Fm x st).2
def Fx(s:List DC):List T_->List DV
 |[]=>[]|x::r=>x.dev s::Fx s r
def Ot(D:M6)(args:List T_)(st:DS):Ec:=
 let as:=Fx st.sl args
 if IJ as&&!(DV.hasPtrL as)then (match D (DV.nrmV (DV.fzL as))with
  |some (g,v)=>if v.ok&&!v.q_&&(v.deep||!(DV.holdL as))then some (g,v,st)else none
  |none=>none)
 else none
def Ql.isH':Ql->Bool
 |.g_ (.h _) _ _=>true|.pre (.h _) _=>true|_=>false
mutual
def DV.isH:DV->Bool
 |.nil q=>q.isH'|.sl q _ _=>q.isH'|.ep q _ _ _ _=>q.isH'|.agg cs=>DV.isHL cs|.f7 vs=>DV.isHL vs|_=>false
def DV.isHL:List DV->Bool
 |[]=>false|v::r=>v.isH||DV.isHL r
end
def Tn:List DC->List DC
 |[]=>[]|c::r=>(if c.v.isH then ⟨true,.any⟩else c)::Tn r
def HQ:List (List DC)->List (List DV)
 |[]=>[]|b::r=>Cn b::HQ r
def newsB:List (List DV)->List (List DC)
 |[]=>[]|b::r=>news b::newsB r
def OI:List DC->List DV->List DC
 |[],vs=>news vs|c::r,[]=>c::r|c::r,v::vs=>(if v.isAny then c else ⟨true,v⟩)::OI r vs
def ON:List (List DC)->List (List DV)->List (List DC)
 |[],vs=>newsB vs|c::r,[]=>c::r|c::r,v::vs=>OI c v::ON r vs
def F4:List DV->List DV->List DV
 |[],vs=>vs|c::r,[]=>c::r|c::r,v::vs=>(if v.isAny then c else v)::F4 r vs
def JO:List (List DV)->List (List DV)->List (List DV)
 |[],vs=>vs|c::r,[]=>c::r|c::r,v::vs=>F4 c v::JO r vs
def Yx:List (List DV)->Bool
 |[]=>true|b::r=>Nat.blt 0 b.length&&DV.okL b&&Yx r
def Hb:List (List DV)->List (List PV)
 |[]=>[]|b::r=>DV.d6 b::Hb r
def DV.isP0:DV->Bool
 |.ptr 0 0=>true|_=>false
def LD(D:Gs)(args:List T_)(st:DS):Ec:=
 let as:=Fx st.sl args
 if IJ as&&!(DV.holdL as)&&Yx (HQ st.hp)then
  (if DV.hasPtrL as then (match D (DV.nrmV (DV.fzL as)) (HQ st.hp)with
   |some (g,v,H)=>if v.ok&&!v.q_ then some (g,v,{ st with sl:=Tn st.sl,hp:=ON st.hp H })else none
   |none=>none)
  else if st.hp.length == 0 then (match D (DV.nrmV (DV.fzL as)) []with
   |some (g,v,H)=>if v.isP0 then some (g,v,{ st with hp:=newsB H })else none
   |none=>none)
  else none)
 else none
def DV.ownS:DV->Bool
 |.sl .own _ _|.nil .own=>true|_=>false
def SV(i c:Nat)(D:Gs)(args:List T_)(st:DS):Ec:=if DV.hasPtrL (Fx st.sl args)&&(Cc st (.b i) [c]).ownS then LD D args st else none
def DV.isAgg:DV->Bool
 |.agg _=>true|_=>false
def DV.flatc:DV->Bool
 |.bool _|.int _ _|.str _|.ifc _=>true|_=>false
def X5:Nat->List DV->Option (Hd×Nat)
 |_,[]=>none|c,.sl (.g_ hd [p] true) _ _::_=>if Nat.ble c p&&hd.sb then some (hd,p-c)else none|c,.nil (.g_ hd [p] true)::_=>if Nat.ble c p&&hd.sb then some (hd,p-c)else none|c,_::r=>X5 (c+1) r
def EN(st:DS)(hd:Hd):Nat->List DV->Option (PX×List DV)
 |_,[]=>some (.tt,[])|c,.sl q _ l::vs=>if D5 q (.g_ hd [c] true)then (match Cc st hd [c],EN st hd (c+1) vs with
  |.sl .own r' l',some (g,os)=>some (PX.land (.p (l.length=l'.length)) g,.sl .own r' l'::os)
  |.nil .own,some (g,os)=>some (PX.land (.p (l.length=0)) g,.nil .own::os)
  |_,_=>none)else if D5 q (.pre hd [c])then (match Cc st hd [c],EN st hd (c+1) vs with
  |.sl (.i6 _) r' l',some (g,os)=>some (PX.land (.p (l.length=l'.length)) g,.sl .own r' l'::os)
  |_,_=>none)else none
 |c,.nil q::vs=>if D5 q (.g_ hd [c] true)then (match Cc st hd [c],EN st hd (c+1) vs with
  |.sl .own r' l',some (g,os)=>some (PX.land (.p (l'.length=0)) g,.sl .own r' l'::os)
  |.nil .own,some (g,os)=>some (g,.nil .own::os)
  |_,_=>none)else none
 |c,v::vs=>if v.flatc then (match EN st hd (c+1) vs with
  |some (g,os)=>some (g,v::os)
  |none=>none)else none
def Jg(hd:Hd):Nat->List DV->DS->Option DS
 |_,[],st=>some st| c,.sl q r l::vs,st=>(match Cc st hd [c]with
   |.sl .own _ _=>Jg hd (c+1) vs (HP st (.sl q r l) hd [c])
   |.nil .own=>Jg hd (c+1) vs (HP st (.sl q r l) hd [c])
   |.sl (.i6 w) _ _=>Jg hd (c+1) vs (HP st (.sl (.i6 w) r l) hd [c])
   |_=>none)
 |_,.nil _::_,_=>none|c,_::vs,st=>Jg hd (c+1) vs st
def Ow (M:DMk)(x k:T_)(st:DS):Ec:=
 match k.dev st.sl with
 | .int .i64 m=>if (x.dev st.sl).isAgg == M.agg&&(x.dev st.sl).argok&&M.r.pl then (match X5 0 (x.dev st.sl).cells with
   | some (hd,b)=>(match EN st hd b (x.dev st.sl).cells with
     | some (g,os)=>(match M.r.of os with
       | some y=>(match Jg hd b (M.r.dv .own (M.g y m).1) st with
         |some f4=>some (g.land (.p (M.ok y)),(match M.vd with|true=>.undef|false=>.int .i64 (M.g y m).2),f4)
         |none=>none)
       |none=>none)
     |none=>none)
   |none=>none)else none
 |_=>none
def OS (M:DTk)(x y:T_)(st:DS):Ec:=
 match y,x.dev st.sl with
 | .t t,.agg cs=>(match CT.of (.sl M.row) (Bs st.sl t),M.ra.ofA cs with
   |some l,some a=>if DV.argok (.agg cs)&&!(DV.hasPtrL cs)&&Nat.blt 0 M.row.w then
    some (.p (M.ok a l),.sl .own M.row (M.val a l),{ st with sl:=DA (.s t) (Dz st.sl t .any) })else none
   |_,_=>none)
 |_,_=>none
def Oj(a:DV)(n:Nat)(st:DS):Ec:=
 match a with
 |.box i o=>MH true i (some n) (.box i o) st|.ptr i o=>LA true (some n) (.ptr i o) st|_=>none
def DV.hld:DV->Option (Hd×Nat)
 |.box i o=>some (.b i,o)|.ptr i o=>some (.h i,o)|_=>none
def TM(_:DV)(_:DS):Option DS:=none
def Hd.isB:Hd->Bool
 |.b _=>true|_=>false
def LI(st:DS)(hd:Hd):Nat->List DV->Option (List DV)
 |_,[]=>some []| c,.sl q r l::vs=>(match Cc st hd [c],LI st hd (c+1) vs with
   |.sl .own _ _,some os=>some (.sl q r l::os)
   |.nil .own,some os=>some (.sl q r l::os)
   |.sl (.i6 _) r' l',some os=>if hd.isB&&D5 q .own then some (.sl (.i6 0) r' l'::os)else none
   |_,_=>none)
 | c,.nil q::vs=>(match Cc st hd [c],LI st hd (c+1) vs with
   |.sl .own _ _,some os=>some (.nil q::os)
   |.nil .own,some os=>some (.nil q::os)
   |_,_=>none)
 | c,v::vs=>if v.flatc then (match LI st hd (c+1) vs with
   |some os=>some (v::os)
   |none=>none)else none
def OH(a:T_)(t:Nat)(st:DS):Option (PX×DS):=
 match (a.dev st.sl).hld,Bs st.sl t with
 | some (hd,b),.agg cs=>(match EN st hd b cs with
   | some (g,os)=>(match Oj (a.dev st.sl) os.length st with
     | some (g2,_,st1)=>(match LI st hd b os with
       |some i=>some (g.land g2,st1.put (some t) (.agg i))
       |none=>none)
     |none=>none)
   |none=>none)
 |_,_=>none
def Ck(o:DOp)(d:Option Nat)(k:DS->DT)(st:DS):DT:=
 match o with
 | .call m _ _ D args=>(match Ot D args (if m then EZ args st else st)with
   |some (g,v,st)=>DT.chk' g (k (st.put d v))
   |none=>.bad)
 | .callp m _ _ D args=>(match LD D args (if m then EZ args st else st)with
   |some (g,v,st)=>DT.chk' g (k (st.put d v))
   |none=>.bad)
 |.fz x=>if (Fm x st).1.ok then k ((Fm x st).2.put d (Fm x st).1.nrm)else .bad| .fzb a o=>(match TM (a.dev st.sl) st with
   | some st=>(match Bz false o none st with
     |some (g,v,st)=>DT.chk' g (k (st.put d v))
     |none=>.bad)
   |none=>.bad)
 | .clm a t o=>(match OH a t st with
   | some (g0,st)=>(match Bz false o none st with
     |some (g,v,st)=>DT.chk' (g0.land g) (k (st.put d v))
     |none=>.bad)
   |none=>.bad)
 | .callv m _ _ D args i c=>(match SV i c D args (if m then EZ args st else st)with
   |some (g,v,st)=>DT.chk' g (k (st.put d v))
   |none=>.bad)
 | .aw ws m o ty=>(match Ol ws m o ty st with
   |some (g,v,st)=>DT.chk' g (k (st.put d v))
   |none=>.bad)
 | .tk _ M x y=>(match OS M x y st with
   |some (g,v,st)=>DT.chk' g (k (st.put d v))
   |none=>.bad)
 | .mark _ M x y=>(match Ow M x y st with
   |some (g,v,st)=>DT.chk' g (k (st.put d v))
   |none=>.bad)
 | .a m o ty=>(match o with
   | .pick c a b=>(match c.dev st.sl with
     | .bool (.lit t)=>(match if t then Bv a st else Bv b st with
       |(v,st)=>if v.ok then k (st.put d v)else .bad)
     | .bool (.dyn t)=>
       if (a.dev st.sl).own||(b.dev st.sl).own||!(DB t (a.dev st.sl) (b.dev st.sl)).ok then .node t (match Bv a st with|(v,st)=>if v.ok then k (st.put d v)else .bad) (match Bv b st with|(v,st)=>if v.ok then k (st.put d v)else .bad)
       else k (st.put d (DB t (a.dev st.sl) (b.dev st.sl)))
     |_=>.bad)
   | o=>(match Bz m o ty st with
     |some (g,v,st)=>DT.chk' g (k (st.put d v))
     |none=>.bad))
def OJ(st:DS)(g:Nat)(b:Bool):DS:={ st with sl:=Dz st.sl g (.bool (.lit b)) }
def QB(o:DOper)(k:DS->DT)(st:DS):DT:=
 match o.guard with
 |none=>Ck o.op o.dst k st| some (g,want)=>(match Bs st.sl g with
   |.bool (.lit b)=>if b == want then Ck o.op o.dst k st else k (st.put o.dst (.f7 []))
   |.bool (.dyn b)=>.node b (if want then Ck o.op o.dst k (OJ st g true)else k ((OJ st g true).put o.dst (.f7 []))) (if want then k ((OJ st g false).put o.dst (.f7 []))else Ck o.op o.dst k (OJ st g false))
   |.f7 []=>k (st.put o.dst (.f7 []))
   |_=>.bad)
def JZ:List DOper->DS->DT
 |[],st=>.leaf .normal st|o::r,st=>QB o (JZ r) st
def setc(st:DS)(c:T_)(b:Bool):DS:=match c with
 |.t g=>OJ st g b|.c _=>st
mutual
def DV.pge(n:Nat):DV->Bool
 |.ptr i _=>Nat.ble n i|.agg cs=>DV.pgeL n cs|.f7 vs=>DV.pgeL n vs|_=>false
def DV.pgeL(n:Nat):List DV->Bool
 |[]=>false|v::r=>v.pge n||DV.pgeL n r
end
def X4(n:Nat):List DC->List DC
 |[]=>[]|c::r=>(if c.v.isH||c.v.pge n then ⟨true,.any⟩else c)::X4 n r
def DS.trunc(n:Nat)(st:DS):DS:={ st with sl:=X4 n st.sl,hp:=st.hp.take n }
def dev:d4->DS->DT
 |.skip,st=>.leaf .normal st|.region ops,st=>JZ ops st|.regionU ops,st=>if TB (ops.map DOper.er)then JZ ops st else .bad|.seq l a b,st=>(dev a st.clean).then (λf4=>dev b (M4 st (Yd l f4))) (M4 st)
 | .cond c a b,st=>(match c.dev st.sl with
   |.bool (.lit t)=>if t then dev a st else dev b st
   |.bool (.dyn t)=>.node t (dev a (setc st c true)) (dev b (setc st c false))
   |_=>.bad)
 |.block i a,st=>(dev a st).unexit i|.scope a,st=>(dev a st).map (DS.trunc st.hp.length)|.loop live n a,st=>QF live n (λst=>dev a st.clean) st
 |.exit i,st=>.leaf (.exit i) st|.ret,st=>.leaf .ret st
structure DFun where
 nparams:Nat
 nslots:Nat
 nbox:Nat
 pure:Bool
 res:List ARes
 body:d4
def DFun.er(f:DFun):PFun:=⟨f.nparams,f.nslots,f.nbox,f.pure,f.res,f.body.er⟩
def Lv(st:DS):ARes->Option (DV×DS)
 |.tmp t=>if (Bs st.sl t).retok&&(Bs st.sl t).ok then some (TH (Bs st.sl t) t st)else none| .cell t n=>(match Bs st.sl t with
   |.box i o=>if Nat.ble (o+n.getD 1) (B0 st.bx i).length&&JM (Cg (Cn (B0 st.bx i)) o (n.getD 1))then (MH true i n (.box i o) st).map (·.2)else none
   |.ptr i o=>if Nat.ble (o+n.getD 1) (B0 st.hp i).length&&JM (Cg (Cn (B0 st.hp i)) o (n.getD 1))then (LA true n (.ptr i o) st).map (·.2)else none
   |_=>none)
def IH(st:DS):List ARes->Option (List DV×DS)
 |[]=>some ([],st)| r :: rs=>(match Lv st r with
   | some (v,st)=>(match IH st rs with
     |some (vs,st)=>some (v::vs,st)
     |none=>none)
   |none=>none)
def G9(st:DS):List ARes->Option DV
 |[r]=>(Lv st r).map (·.1)|rs=>(IH st rs).map λx=>.f7 x.1
def DT.val(res:List ARes):DT->PX×Option DV
 |.leaf (.exit _) _=>(.ff,none)| .leaf _ st=>(match G9 st res with
   |some v=>if v.ok&&!v.q_ then (.tt,some v)else (.ff,none)
   |none=>(.ff,none))
 | .node c a b=>(match a.val res,b.val res with
   |(g,none),(g',y)=>(PX.if' c g g',y)
   |(g,x),(g',none)=>(PX.if' c g g',x)
   |(g,some x),(g',some y)=>(PX.if' c g g',some (DB c x y)))
 | .chk g t=>(match t.val res with
   |(g',v)=>(g.land g',v))
 |.bad=>(.ff,none)
def JL(n:Nat):List DC:=match n with
 |0=>[]|n+1=>⟨true,.any⟩::JL n
def JK:Nat->List (List DC)
 |0=>[]|n+1=>[]::JK n
def TF(f:DFun)(args:List DV):PX×Option DV:=(dev f.body ⟨news args++JL (f.nslots-f.nparams),JK f.nbox,[]⟩).val f.res
end
def EC(c:DC)(p:PV):Prop:=c.v= .any\/p=c.v.enc
def EL:List DC->List PV->Prop
 |[],[]=>True|c::a,p::b=>EC c p/\EL a b|_,_=>False
def EBx(b:List DC)(p:List PV):Prop:=b=[]\/EL b p
def EB:List (List DC)->List (List PV)->Prop
 |[],[]=>True|c::a,p::b=>EBx c p/\EB a b|_,_=>False
structure ES (d:DS) (s:PS):Prop where
 sl:EL d.sl s.sl
 bx:EB d.bx s.bx
 hp:EB d.hp s.hp
theorem EL.len:∀ {a:List DC} {b:List PV},EL a b->a.length=b.length
 |[],[],_=>rfl
 |_::_,_::_,h=>by simp only[A0,EL.len h.2]
theorem EB.len:∀ {a:List (List DC)} {b:List (List PV)},EB a b->a.length=b.length
 |[],[],_=>rfl
 |_::_,_::_,h=>by simp only[A0,EB.len h.2]
def EV(v:DV)(p:PV):Prop:=v= .any\/p=v.enc
theorem EL.get:∀ {a:List DC} {b:List PV} (n:Nat),EL a b->EV (Bs a n) (Aa b n)
 |[],[],_,_=>.inl rfl
 |_::_,_::_,0,h=>h.1
 |_::_,_::_,n+1,h=>EL.get n h.2
theorem EL.put:∀ {a:List DC} {b:List PV} {v:DV} {p:PV} (n:Nat),EL a b->EV v p->EL (Dz a n v) (BQ b n p)
 |[],[],_,_,_,_,_=>trivial
 |_::_,_::_,_,_,0,h,hv=>⟨hv,h.2⟩
 |_::_,_::_,_,_,n+1,h,hv=>⟨h.1,EL.put n h.2 hv⟩
theorem EB.get:∀ {a:List (List DC)} {b:List (List PV)} (n:Nat),EB a b->EBx (B0 a n) (Aq b n)
 |[],[],_,_=>.inl rfl
 |_::_,_::_,0,h=>h.1
 |_::_,_::_,n+1,h=>EB.get n h.2
theorem EB.put:∀ {a:List (List DC)} {b:List (List PV)} {v:List DC} {p:List PV} (n:Nat),EB a b->EBx v p->EB (F1 a n v) (Ci b n p)
 |[],[],_,_,_,_,_=>trivial
 |_::_,_::_,_,_,0,h,hv=>⟨hv,h.2⟩
 |_::_,_::_,_,_,n+1,h,hv=>⟨h.1,EB.put n h.2 hv⟩
theorem FN:∀(l:List DV),(DV.d6 l).length=l.length
 |[]=>rfl
 |_::r=>by simp only[DV.d6,A0,FN r]
theorem EL.d_:∀ {a:List DC} {b:List PV} (n:Nat) (g:List DV),EL a b->EL (JD a n g) (AX b n (DV.d6 g))
 |[],[],_,[],_=>trivial
 |[],[],_,_::_,_=>trivial
 |_::_,_::_,0,[],h=>h
 |_::_,_::_,_+1,[],h=>h
 |_::_,_::_,0,v::g,h=>⟨.inr rfl,EL.d_ 0 g h.2⟩
 |_::_,_::_,n+1,v::g,h=>⟨h.1,EL.d_ n (v::g) h.2⟩
theorem V8:∀(cs:List DV) (n:Nat) (b:List DV),DV.d6 (MF cs n b)=AX (DV.d6 cs) n (DV.d6 b)
 |[],_,[]=>rfl
 |_::_,0,[]=>rfl
 |_::_,_+1,[]=>rfl
 |[],0,_::_=>rfl
 |[],_+1,_::_=>rfl
 |_::r,0,v::b=>by simp only[MF,DV.d6,AX,V8 r 0 b]
 |c::r,n+1,v::b=>by simp only[MF,DV.d6,AX,V8 r n (v::b)]
theorem Ww:∀(cs:List DV) (o n:Nat),DV.d6 (Cg cs o n)=s_ (DV.d6 cs) o n
 |[],0,0=>rfl
 |[],0,_+1=>rfl
 |[],_+1,_=>rfl
 |_::_,0,0=>rfl
 |c::r,0,n+1=>by simp only[Cg,DV.d6,s_,Ww r 0 n]
 | _::r,o+1,n=>by
   simp only[Cg,DV.d6,s_];exact Ww r o n
theorem P5:∀(cs:List DV) (n:Nat),(Hh cs n).enc=Aa (DV.d6 cs) n
 |[],_=>rfl
 |_::_,0=>rfl
 |_::r,n+1=>P5 r n
theorem WI:∀(cs:List DV) (n:Nat) (v:DV),DV.d6 (QL cs n v)=BQ (DV.d6 cs) n v.enc
 |[],_,_=>rfl
 |_::_,0,_=>rfl
 |_::r,n+1,v=>by simp only[QL,DV.d6,BQ,WI r n v]
theorem EL.s_:∀ {a:List DC} {b:List PV} (o n:Nat),EL a b->DV.okL (Cg (Cn a) o n)=true->Go.Ag.s_ b o n=DV.d6 (Cg (Cn a) o n)
 |[],[],0,0,_,_=>rfl
 |[],[],0,_+1,_,_=>rfl
 |[],[],_+1,_,_,_=>rfl
 |_::_,_::_,0,0,_,_=>rfl
 | c::r,p::s,0,n+1,h,hk=>by
   simp only[Cn,Cg,DV.okL,Ai]at hk;simp only[Cn,Cg,Go.Ag.s_,DV.d6];rw[EL.s_ 0 n h.2 hk.2];rcases h.1 with h1|h1
   ·rw[h1]at hk;cases hk.1
   rw[h1]
 | _::r,_::s,o+1,n,h,hk=>by
   simp only[Cn,Cg,Go.Ag.s_]at hk ⊢;exact EL.s_ o n h.2 hk
theorem WY:∀(a:List DC),(Cn a).length=a.length
 |[]=>rfl
 |_::r=>by simp only[Cn,A0,WY r]
theorem EL.news:∀(b:List DV),EL (Go.Ag.news b) (DV.d6 b)
 |[]=>trivial
 |_::r=>⟨.inr rfl,EL.news r⟩
theorem nG(q:Ql)(es:List (List PV)):(PV.sl q es).own=q.own':=by cases q<;>rfl
theorem nK(q:Ql)(hd:Hd)(es:List (List PV)):(PV.sl q es).g_ hd=q.bor' hd:=by cases q<;>rfl
theorem ZgD(q:Ql)(hd:Hd)(es:List (List PV))(j o:Nat):(PV.ep q es j o).g_ hd=q.bor' hd:=by cases q<;>rfl
mutual
theorem JE:∀(v:DV),v.enc.own=v.own
 |.any|.undef|.bool _|.int _ _|.str _|.ifc _|.box _ _|.ptr _ _=>rfl
 |.nil q=>nG q []
 |.sl q _ _=>nG q _
 |.ep q _ _ _ _=>by cases q<;>rfl
 |.agg cs=>P3 cs
 |.f7 vs=>P3 vs
theorem P3:∀(l:List DV),PV.ownL (DV.d6 l)=DV.ownL l
 |[]=>rfl
 |v::r=>by simp only[DV.d6,PV.ownL,DV.ownL,JE v,P3 r]
end
mutual
theorem Xg(hd:Hd):∀(v:DV),v.enc.g_ hd=v.g_ hd
 |.any|.undef|.bool _|.int _ _|.str _|.ifc _|.box _ _|.ptr _ _=>rfl
 |.nil q=>nK q hd []
 |.sl q _ _=>nK q hd _
 |.ep q _ _ _ _=>ZgD q hd _ _ _
 |.agg cs=>bf hd cs
 |.f7 vs=>bf hd vs
theorem bf(hd:Hd):∀(l:List DV),PV.borL hd (DV.d6 l)=DV.borL hd l
 |[]=>rfl
 |v::r=>by simp only[DV.d6,PV.borL,DV.borL,Xg hd v,bf hd r]
end
mutual
theorem Zf5:∀(v:DV),v.enc.hold=v.hold
 |.any|.undef|.bool _|.int _ _|.str _|.ifc _|.box _ _|.ptr _ _=>rfl
 |.nil q=>by cases q<;>rfl
 |.sl q _ _=>by cases q<;>rfl
 |.ep q _ _ _ _=>by cases q<;>rfl
 |.agg cs=>Se cs
 |.f7 vs=>Se vs
theorem Se:∀(l:List DV),PV.holdL (DV.d6 l)=DV.holdL l
 |[]=>rfl
 |v::r=>by simp only[DV.d6,PV.holdL,DV.holdL,Zf5 v,Se r]
end
mutual
theorem cR:∀(v:DV),v.fz.enc=v.enc.fz
 |.any|.undef|.bool _|.int _ _|.str _|.ifc _|.box _ _|.ptr _ _|.nil _|.sl _ _ _|.ep _ _ _ _ _=>rfl
 |.agg cs=>by simp only[DV.fz,DV.enc,PV.fz,Qm cs]
 |.f7 cs=>by simp only[DV.fz,DV.enc,PV.fz,Qm cs]
theorem Qm:∀(l:List DV),DV.d6 (DV.fzL l)=PV.fzL (DV.d6 l)
 |[]=>rfl
 |v::r=>by simp only[DV.d6,PV.fzL,DV.fzL,cR v,Qm r]
end
mutual
theorem ay:∀(v:DV),v.detop.enc=v.enc.detop
 |.any|.undef|.bool _|.int _ _|.str _|.ifc _|.box _ _|.ptr _ _=>rfl
 |.nil q=>by cases q<;>rfl
 |.sl q _ _=>by cases q<;>rfl
 |.ep q _ _ _ _=>by cases q<;>rfl
 |.agg cs=>by simp only[DV.detop,DV.enc,PV.detop,ZX cs]
 |.f7 cs=>by simp only[DV.detop,DV.enc,PV.detop,ZX cs]
theorem ZX:∀(l:List DV),DV.d6 (DV.detopL l)=PV.detopL (DV.d6 l)
 |[]=>rfl
 |v::r=>by simp only[DV.d6,PV.detopL,DV.detopL,ay v,ZX r]
end
mutual
theorem RY:∀(v:DV),v.enc.q_=v.q_
 |.any|.undef|.bool _|.int _ _|.str _|.ifc _|.box _ _|.ptr _ _|.nil _|.sl _ _ _|.ep _ _ _ _ _=>rfl
 |.agg cs=>Mj cs
 |.f7 vs=>Mj vs
theorem Mj:∀(l:List DV),PV.hasPtrL (DV.d6 l)=DV.hasPtrL l
 |[]=>rfl
 |v::r=>by simp only[DV.d6,PV.hasPtrL,DV.hasPtrL,RY v,Mj r]
end
mutual
theorem nM:∀(t:CT) (x:t.D),t.pl=true->(CT.enc t x).deep=true
 |.int _,_,_|.bool,_,_|.str,_,_|.ifc,_,_=>rfl
 | .sl r,l,h=>by
   simp only[CT.enc,PV.deep];exact bH r l h
 |.slf _,_,h=>by cases h
theorem mZ:∀(r:RT) (x:r.D),r.pl=true->PV.deepL (RT.enc r x)=true
 |.one t,x,h=>by simp only[RT.enc,PV.deepL,nM t x h,Dy]
 | .cons t r,x,h=>by
   rw[RT.pl,Ai]at h;simp only[RT.enc,PV.deepL,nM t x.1 h.1,mZ r x.2 h.2,Dy]
theorem bH:∀(r:RT) (l:List r.D),r.pl=true->PV.deepE (l.map (RT.enc r))=true
 |_,[],_=>rfl
 |r,x::l,h=>by simp only[Cf,PV.deepE,mZ r x h,bH r l h,Dy]
end
theorem EL.clr(hd:Hd):∀ {a:List DC} {b:List PV},EL a b->EL (DA hd a) (Go.Ag.clr hd b)
 |[],[],_=>trivial
 | c :: _,p::_,h=>by
   refine⟨?_,EL.clr hd h.2⟩;by_cases g:c.v.g_ hd=true
   ·rw[Ac g];exact .inl rfl
   rw[Ae g];rcases h.1 with h1|h1
   ·exact .inl h1
   rw[h1,Xg,Ae g];exact .inr rfl
theorem ZeH(i:Nat)(v:DV):v.enc.isBox i=v.isBox i:=by cases v<;>rfl
theorem EL.r_(i:Nat):∀ {a:List DC} {b:List PV},EL a b->EL (R8 i a) (GU i b)
 |[],[],_=>trivial
 | c :: _,p::_,h=>by
   refine⟨?_,EL.r_ i h.2⟩;by_cases g:c.v.isBox i=true
   ·rw[Ac g];exact .inl rfl
   rw[Ae g];rcases h.1 with h1|h1
   ·exact .inl h1
   rw[h1,ZeH,Ae g];exact .inr rfl
theorem EL.trim(live:List Nat):∀ {a:List DC} {b:List PV} (n:Nat),EL a b->EL (X8 live n a) (Gu live n b)
 |[],[],_,_=>trivial
 | c::_,p::_,n,h=>by
   refine⟨?_,EL.trim live (n+1) h.2⟩;by_cases g:live.contains n=true
   ·rw[Ac g,Ac g];exact h.1
   rw[Ae g];exact .inl rfl
mutual
theorem lQ:∀(v:DV),v.hasTop=false->v.detop=v
 |.any,_|.undef,_|.bool _,_|.int _ _,_|.str _,_|.ifc _,_|.box _ _,_|.ptr _ _,_=>rfl
 |.nil q,h=>by cases q<;>first|rfl|(simp only[DV.hasTop,DV.top]at h;first|(subst h;rfl)|cases h)
 |.sl q _ _,h=>by cases q<;>first|rfl|(simp only[DV.hasTop,DV.top]at h;first|(subst h;rfl)|cases h)
 |.ep q _ _ _ _,h=>by cases q<;>first|rfl|(simp only[DV.hasTop,DV.top]at h;first|(subst h;rfl)|cases h)
 |.agg cs,h=>by simp only[DV.hasTop]at h;simp only[DV.detop,aB cs h]
 |.f7 cs,h=>by simp only[DV.hasTop]at h;simp only[DV.detop,aB cs h]
theorem aB:∀(l:List DV),DV.hasTopL l=false->DV.detopL l=l
 |[],_=>rfl
 | v::r,h=>by
   simp only[DV.hasTopL,Ce]at h;simp only[DV.detopL,lQ v h.1,aB r h.2]
end
theorem EL.keep(live:List Nat):∀ {a:List DC} {b:List PV} (n:Nat),EL a b->EL (Xw live n a) (E7 live n b)
 |[],[],_,_=>trivial
 | c :: _,p::_,n,h=>by
   refine⟨?_,EL.keep live (n+1) h.2⟩;by_cases g:live.contains n=true
   ·rw[Ac g,Ac g];rcases h.1 with h1|h1
    ·rw[h1];exact .inl h1
    by_cases ht:c.v.hasTop=true
    ·rw[Ac ht,h1];exact .inr (ay c.v).symm
    rw[Ae ht,h1,<- ay,lQ c.v (by simpa using ht)];exact .inr rfl
   rw[Ae g];exact .inl rfl
theorem EL.clean:∀ {a:List DC} {b:List PV},EL a b->EL (Go.Ag.clean a) b
 |[],[],_=>trivial
 |_::_,_::_,h=>⟨h.1,EL.clean h.2⟩
theorem EBx.clean{a:List DC}{b:List PV}(h:EBx a b):EBx (Go.Ag.clean a) b:=by
 rcases h with rfl|h
 ·exact .inl rfl
 exact .inr h.clean
theorem EB.clean:∀ {a:List (List DC)} {b:List (List PV)},EB a b->EB (Qv a) b
 |[],[],_=>trivial
 |_::_,_::_,h=>⟨h.1.clean,EB.clean h.2⟩
theorem ES.clean{d:DS}{s:PS}(h:ES d s):ES d.clean s:=⟨h.sl.clean,h.bx.clean,h.hp.clean⟩
theorem ES.trim{d:DS}{s:PS}(l:List Nat)(h:ES d s):ES (Yd l d) { s with sl:=Gu l 0 s.sl }:=⟨h.sl.trim l 0,h.bx,h.hp⟩
theorem ES.keep{d:DS}{s:PS}(l:List Nat)(h:ES d s):ES (Er l d) { s with sl:=E7 l 0 s.sl }:=⟨h.sl.keep l 0,h.bx,h.hp⟩
theorem EL.rem:∀ {x a:List DC} {b:List PV},EL a b->EL (QP x a) b
 |[],[],[],_=>trivial
 |[],_::_,_::_,h=>h
 |_::_,[],[],_=>trivial
 |_::_,_::_,_::_,h=>⟨h.1,EL.rem h.2⟩
theorem EBx.rem{x a:List DC}{b:List PV}(h:EBx a b):EBx (QP x a) b:=by
 rcases h with rfl|h
 ·cases x<;>exact .inl rfl
 exact .inr h.rem
theorem EB.rem:∀ {x a:List (List DC)} {b:List (List PV)},EB a b->EB (TL x a) b
 |[],[],[],_=>trivial
 |[],_::_,_::_,h=>h
 |_::_,[],[],_=>trivial
 |_::_,_::_,_::_,h=>⟨h.1.rem,EB.rem h.2⟩
theorem ES.rem{x d:DS}{s:PS}(h:ES d s):ES (M4 x d) s:=⟨h.sl.rem,h.bx.rem,h.hp.rem⟩
theorem ES.put{d:DS}{s:PS}(x:Option Nat)(v:DV)(h:ES d s):ES (d.put x v) (s.put x v.enc):=by
 cases x with
 |none=>exact h
 | some n=>
   simp only[DS.put,PS.put,JE];by_cases b:v.own=true
   ·rw[Ac b,Ac b];exact⟨(h.sl.put n (.inr rfl)).clr _,h.bx,h.hp⟩
   rw[Ae b,Ae b];exact⟨h.sl.put n (.inr rfl),h.bx,h.hp⟩
theorem Sr(v:V)(h:JV v≠.any):(JV v).enc=BJ v:=by
 cases v<;>first|rfl|skip
 case f7 vs=>cases vs<;>rfl
theorem Fj{d:DS}{s:PS}(x:T_)(h:ES d s)(b:(Bv x d).1.ok=true):(f' x s).1=(Bv x d).1.enc/\ES (Bv x d).2 (f' x s).2:=by
 cases x with
 | c v=>
   refine⟨?_,h⟩;refine(Sr v λq=>?_).symm;simp only[Bv,q,DV.ok,AY]at b
 | t n =>
   simp only[Bv,TH,f',F5]at b ⊢;rcases h.sl.get n with g|g
   ·rw[g]at b;simp only[DV.own,AY,A3,DV.ok]at b
   rw[g,JE,Xg];by_cases i:(Bs d.sl n).own=true
   ·simp only[i,AS]at b ⊢;by_cases j:(Bs d.sl n).g_ (.s n)=true
    ·simp only[j,AS,DV.ok,AY]at b
    simp only[j]at b ⊢;exact⟨rfl,(h.sl.put n (.inl rfl)).clr _,h.bx,h.hp⟩
   simp only[i]at b ⊢;exact⟨rfl,h⟩
theorem Zfy(v:DV)(h:v.cell=true):v.enc.cell=true:=by
 cases v<;>first|rfl|cases h|skip
 case nil q=>cases q<;>first|rfl|cases h
 case sl q r l=>cases q<;>first|rfl|cases h
theorem NM:∀(l:List DV),DN l=true->BP (DV.d6 l)=true
 |[],_=>rfl
 | v::r,h=>by
   simp only[DN,Ai]at h;simp only[DV.d6,BP,Zfy v h.1,NM r h.2,Dy]
theorem Zhg(v:DV)(h:v.cell=true):v.ok=true:=by cases v<;>first|rfl|cases h
theorem kx:∀(l:List DV),DN l=true->DV.okL l=true
 |[],_=>rfl
 | v::r,h=>by
   simp only[DN,Ai]at h;simp only[DV.okL,Zhg v h.1,kx r h.2,Dy]
theorem Mr(v:DV):v.enc.cells=DV.d6 v.cells:=by cases v<;>rfl
theorem Sy(v:DV)(h:DN v.cells=true):v.ok=true:=by
 cases v<;>first|rfl|(simp only[DV.cells,DN,DV.cell,MT,AY]at h)|skip
 case agg cs=>exact kx cs h
theorem bB(v:DV)(h:v.retc=true):v.enc.retc=true:=by
 cases v<;>first|rfl|cases h|skip
 case nil q=>cases q<;>first|rfl|cases h
 case sl q r l=>cases q<;>first|rfl|cases h
theorem WK:∀(l:List DV),JM l=true->Fy (DV.d6 l)=true
 |[],_=>rfl
 | v::r,h=>by
   simp only[JM,Ai]at h;simp only[DV.d6,Fy,bB v h.1,WK r h.2,Dy]
theorem ky(v:DV)(h:v.retok=true):v.enc.retok=true:=by
 cases v<;>first|rfl|cases h|skip
 case nil q=>exact bB (.nil q) h
 case sl q r l=>exact bB (.sl q r l) h
 case agg cs=>exact WK cs h
theorem lS(v:DV)(h:v.argc=true):v.enc.argc=true:=by cases v<;>first|rfl|cases h
theorem lJ:∀(l:List DV),X7 l=true->JY (DV.d6 l)=true
 |[],_=>rfl
 | v::r,h=>by
   simp only[X7,Ai]at h;simp only[DV.d6,JY,lS v h.1,lJ r h.2,Dy]
theorem aq(v:DV)(h:v.argok=true):v.enc.argok=true:=by
 cases v<;>first|rfl|cases h|exact lS _ h|skip
 case agg cs=>exact lJ cs h
theorem Wp:∀(l:List DV),IJ l=true->HH (DV.d6 l)=true
 |[],_=>rfl
 | v::r,h=>by
   simp only[IJ,Ai]at h;simp only[DV.d6,HH,aq v h.1,Wp r h.2,Dy]
theorem T_.dev_ev{d:DS}{s:PS}(h:ES d s)(x:T_):EV (x.dev d.sl) (x.t7 s.sl):=by
 cases x with
 |t n=>exact h.sl.get n
 | c v=>
   by_cases b:JV v= .any
   ·exact .inl b
   exact .inr (Sr v b).symm
theorem EV.of{v:DV}{p:PV}(h:EV v p)(b:v≠.any):p=v.enc:=h.resolve_left b
theorem ZaP{op:BinOp}{k:IntKind}{a b:Int}{g:PX}{v:DV}(h:Xf op k a b=some (g,v))(i:g.den):(Eb op k a b).map PV.fl=some v.enc:=by
 cases op<;>simp only[Xf,dI,dB,Ao,An,reduceCtorEq]at h<;>obtain⟨rfl,rfl⟩:=h<;>simp only[Eb,dO,oP,Zir,Zii,dg,oL,pt,oJ,kn,Yb,pn,pr,pe,pT,pI,DV.enc,BX.b,Cq]
 ·rw[Ae (show ¬b=0 from i)];rfl
 rw[Ae (show ¬b=0 from i)];rfl
theorem iU{op:BinOp}{k:IntKind}{a b:Int}{g:PX}{v:DV}(h:Xt op k a b=some (g,v))(i:g.den):(NV op k a b).map PV.fl=some v.enc:=by
 cases op<;>simp only[Xt,Ao,An,reduceCtorEq]at h<;>obtain⟨rfl,rfl⟩:=h<;>simp only[NV,n8,oD,DV.enc]<;>rw[Ae (show ¬b<0 from Int.not_lt.mpr i)]<;>rfl
theorem Xn{k b:IntKind}(h:IntKind.same k b=true):k=b:=by simpa [IntKind.same]using h
theorem Zdn{op:BinOp}{a b:DV}{p q:PV}{g:PX}{v:DV}(u:EV a p)(t:EV b q)(h:QM op a b=some (g,v))(i:g.den):QG op p q=some v.enc:=by
 cases a<;>try (simp only[QM,reduceCtorEq]at h)
 case int k a=>
  cases b<;>try (simp only[QM,reduceCtorEq]at h)
  case int k' b=>
   rw[u.of (by simp),t.of (by simp)];simp only[DV.enc,QG,Cy];by_cases h1:op= .shl
   ·subst h1;exact iU h i
   by_cases s:op= .shr
   ·subst s;exact iU h i
   have j:(if IntKind.same k k'=true then Xf op k a b else none)=some (g,v):=(by cases op<;>first|exact h|exact absurd rfl h1|exact absurd rfl s);by_cases n:IntKind.same k k'=true
   ·rw[Ac n]at j;have:=Xn n;subst this;have x:=ZaP j i;cases op<;>simp only[AS]<;>first|exact x|exact absurd rfl h1|exact absurd rfl s
   rw[Ae n]at j;cases j
 case str a=>
  cases b<;>try (simp only[QM,reduceCtorEq]at h)
  case str b=>
   rw[u.of (by simp),t.of (by simp)];cases op<;>simp only[QM,dB,Ao,An,reduceCtorEq]at h<;>obtain⟨rfl,rfl⟩:=h<;>simp only[DV.enc,QG,Cy,oc,pC,ph,BX.b,Cq];rw[Ac (show a.length+b.length<=9223372036854775807 from i)];rfl
theorem dF(x:BX):x.not.b=!x.b:=by cases x<;>simp only[BX.not,BX.b,Qt]
theorem Zjr(x y:BX):(x.eq y).b=(x.b == y.b):=by
 cases x with
 | lit a=>cases y with
   |lit b=>rfl
   |dyn b=>cases a<;>cases b<;>simp only[BX.eq,BX.b,Qt]<;>rfl
 | dyn a=>cases y with
   |lit b=>cases a<;>cases b<;>simp only[BX.eq,BX.b,Qt]<;>rfl
   |dyn b=>simp only[BX.eq,BX.b,oh]
theorem ZcD{i:Bool}{a b:DV}{p q:PV}{g:PX}{v:DV}(n:EV a p)(j:EV b q)(h:Yk i a b=some (g,v)):Ts i p q=some v.enc:=by
 cases a<;>try (simp only[Yk,reduceCtorEq]at h)
 case bool a=>
  cases b<;>try (simp only[Yk,reduceCtorEq]at h)
  case bool b=>
   rw[n.of (by simp),j.of (by simp)];simp only[Gz,Ao,An]at h;obtain⟨rfl,rfl⟩:=h;cases i<;>simp only[DV.enc,Ts,AS,AY,A3,dF,Zjr]
theorem ZcW{i:Bool}{a:DV}{p:PV}{g:PX}{v:DV}(j:EV a p)(h:eL i a=some (g,v)):Tw i p=some v.enc:=by
 cases a<;>try (simp only[eL,reduceCtorEq]at h)
 case ifc a=>
  rw[j.of (by simp)];simp only[dB,Ao,An]at h;obtain⟨rfl,rfl⟩:=h;cases i<;>simp only[DV.enc,Tw,AS,AY,A3,Qt,BX.b]
theorem Zeq{op:UnOp}{a:DV}{p:PV}{g:PX}{v:DV}(b:EV a p)(h:eY op a=some (g,v)):TJ op p=some v.enc:=by
 cases op<;>cases a<;>simp only[eY,Gz,dI,Ao,An,reduceCtorEq]at h<;>obtain⟨rfl,rfl⟩:=h<;>rw[b.of (by simp)]<;>simp only[DV.enc,TJ,Je,Cq,dF,Ziu]
theorem ZbT{k:IntKind}{a:DV}{p:PV}{g:PX}{v:DV}(b:EV a p)(h:eB k a=some (g,v)):SZ k p=some v.enc:=by
 cases a<;>simp only[eB,dI,Ao,An,reduceCtorEq]at h;obtain⟨rfl,rfl⟩:=h;rw[b.of (by simp)];simp only[DV.enc,SZ,mX]
theorem ZbG{a:DV}{p:PV}{g:PX}{v:DV}(b:EV a p)(h:cU a=some (g,v)):Xh p=some v.enc:=by
 cases a<;>simp only[cU,Gz,Ao,An,reduceCtorEq]at h<;>obtain⟨rfl,rfl⟩:=h<;>rw[b.of (by simp)]<;>rfl
theorem Zai{off:Nat}{a:DV}{p:PV}{g:PX}{v:DV}(b:EV a p)(h:cJ off a=some (g,v)):WG off p=some v.enc:=by
 cases a<;>simp only[cJ,Gz,Ao,An,reduceCtorEq]at h<;>obtain⟨rfl,rfl⟩:=h<;>rw[b.of (by simp)]<;>rfl
theorem Zdj{a:DV}{p:PV}{g:PX}{v:DV}(b:EV a p)(h:eM a=some (g,v)):Tp p=some v.enc:=by
 cases a<;>simp only[eM,dI,Ao,An,reduceCtorEq]at h<;>obtain⟨rfl,rfl⟩:=h<;>rw[b.of (by simp)]<;>simp only[DV.enc,Tp,Bd,oz,A8]<;>rfl
theorem ZbJ{a:DV}{p:PV}{g:PX}{v:DV}(b:EV a p)(h:pU a=some (g,v)):dV p=some v.enc:=by cases h
theorem Zbp{a b:DV}{p q:PV}{g:PX}{v:DV}(n:EV a p)(j:EV b q)(h:oA a b=some (g,v))(i:g.den):bQ p q=some v.enc:=by cases h
theorem Lx:∀(r:RT) (x:r.D),(RT.enc r x).length=r.w
 |.one _,_=>rfl
 |.cons _ r,x=>by simp only[RT.enc,A0,RT.w,Lx r x.2]
theorem FL(r:RT):∀(l:List r.D),CR r.w (l.map (RT.enc r))=true
 |[]=>rfl
 |x::l=>by simp only[Cf,CR,Lx,beq_self_eq_true,FL r l,Dy]
theorem Zaq{w:Nat}{x:T_}{a b:DV}{p q:PV}{g:PX}{v:DV}(y:EV a p)(u:EV b q)(h:SK w x a b=some (g,v))(t:g.den):Sl w x p q=some v.enc:=by
 cases a<;>try (simp only[SK,reduceCtorEq]at h)
 case sl q' r l=>
  cases b<;>try (simp only[SK,reduceCtorEq]at h)
  case int k j=>
   rw[y.of (by simp),u.of (by simp)];by_cases n:(r.w == w)=true
   ·rw[Ac n]at h;have i:r.w=w:=(by simpa using n);subst i;cases s:Fw x q' with
    |none=>rw[s]at h;cases h
    | some q2=>
      rw[s]at h;simp only[Ao,An]at h;obtain⟨rfl,rfl⟩:=h;simp only[DV.enc,Sl,Bd,dR];rw[Ac ⟨t.1,t.2,FL r l⟩,s];rfl
   rw[Ae n]at h;cases h
 case nil q'=>cases b<;>simp only[SK,reduceCtorEq]at h
theorem Zcp{a b:DV}{p q:PV}{g:PX}{v:DV}(j:EV a p)(i:EV b q)(h:eO a b=some (g,v)):TA p q=some v.enc:=by
 unfold eO at h;split at h
 ·simp only[dI,Ao,An]at h;obtain⟨rfl,rfl⟩:=h;rw[j.of (by simp),i.of (by simp)];simp only[DV.enc,TA,ZiD]
 cases h
theorem Zdd{a b:DV}{p q:PV}{g:PX}{v:DV}(j:EV a p)(i:EV b q)(h:eT a b=some (g,v)):Ti p q=some v.enc:=by
 unfold eT at h;split at h
 ·simp only[dI,Ao,An]at h;obtain⟨rfl,rfl⟩:=h;rw[j.of (by simp),i.of (by simp)];simp only[DV.enc,Ti,Zh9]
 cases h
theorem m_(a b:PX):(a.land b).den↔a.den/\b.den:=by
 cases a<;>cases b<;>simp[PX.land,PX.den]
theorem iK{d:Nat}{x:Option DV}{y:Option PV}{g:PX}{n:Nat}(b:match x,y with|none,none=>True|some v,some p=>EV v p|_,_=>False)(h:Og d x=some (g,n))(i:g.den):Oa d y=some n:=by
 cases x with
 | none=>
   cases y with
   |none=>simp only[Og,Ao,An]at h;rw[<- h.2];rfl
   |some p=>cases b
 | some v=>
   cases y with
   |none=>cases b
   | some p=>
     cases v<;>simp only[Og,Ao,An,reduceCtorEq]at h;obtain⟨rfl,rfl⟩:=h;rw[EV.of b (by simp)];simp only[DV.enc,Oa,dR];exact Ac i
theorem ZaL{j hi:Option DV}{b i:Option PV}{a:DV}{p:PV}{g:PX}{v:DV}(n:match j,b with|none,none=>True|some v,some p=>EV v p|_,_=>False)(q:match hi,i with|none,none=>True|some v,some p=>EV v p|_,_=>False)(t:EV a p)(h:mR j hi a=some (g,v))(s:g.den):br b i p=some v.enc:=by cases h
theorem Zbu{w:Nat}{x:T_}{j hi:Option DV}{i s:Option PV}{a:DV}{p:PV}{g:PX}{v:DV}(D:match j,i with|none,none=>True|some v,some p=>EV v p|_,_=>False)(I:match hi,s with|none,none=>True|some v,some p=>EV v p|_,_=>False)(J:EV a p)(h:dh w x j hi a=some (g,v))(n:g.den):SJ w x i s p=some v.enc:=by
 cases a<;>try (simp only[dh,reduceCtorEq]at h)
 case sl q r t=>
  rw[J.of (by simp)];cases h1:Og 0 j with
  |none=>rw[h1]at h;cases h
  | some x1 =>
    cases C:Og (lN t) hi with
    |none=>rw[h1,C]at h;cases h
    | some y=>
      obtain⟨N,a⟩:=x1;obtain⟨M,b⟩:=y;rw[h1,C]at h;simp only at h;by_cases z:(r.w == w)=true
      ·rw[Ac z]at h;have u:r.w=w:=(by simpa using z);subst u;cases A:qb x j.isNone q with
       |none=>rw[A]at h;cases h
       | some q'=>
         rw[A]at h;simp only[Ao,An]at h;obtain⟨rfl,rfl⟩:=h;rw[m_,m_]at n;have L:=iK D h1 n.1.1;have F:=iK I C n.1.2;simp only[Yu]at F;have G:Fv x (if i.isNone=true then 0 else 1) q=some q':=by
          have:i.isNone=j.isNone:=(by cases j<;>cases i<;>first|rfl|exact D.elim);rw[this];exact A
         simp only[DV.enc,SJ,Bd,L,F,ow,G];rw[Ac ⟨n.2.1,n.2.2.1,n.2.2.2,FL r t⟩,XK,List.map_drop];rfl
      rw[Ae z]at h;cases h
theorem Zf6(hd:Hd)(p:List Nat)(v:DV):(eI hd p v).enc=C4 hd p v.enc:=by
 cases v<;>first|rfl|skip
 case nil q=>cases q<;>rfl
 case sl q r l=>cases q<;>rfl
theorem Sw(hd:Hd):∀(n:Nat) (l:List DV),DV.d6 (JP hd n l)=Hc hd n (DV.d6 l)
 |_,[]=>rfl
 |n,v::r=>by simp only[JP,DV.d6,Hc,Zf6,Sw hd (n+1) r]
theorem PU{n:Option Nat}{cs:List DV}{v:DV}(h:FR n cs=some v):D2 n (DV.d6 cs)=some v.enc:=by
 cases n with
 |some n=>simp only[FR,Ao]at h;subst h;rfl
 | none=>match cs,h with
   |[x],h=>simp only[FR,Ao]at h;subst h;rfl
theorem Zbe{off:Nat}{n:Option Nat}{x:T_}{a:DV}{p:PV}{g:PX}{v:DV}(j:EV a p)(h:cY off n x a=some (g,v)):SD off n x p=some v.enc:=by
 cases a<;>try (simp only[cY,reduceCtorEq]at h)
 case agg cs=>
  rw[j.of (by simp)];cases x with
  |c _=>cases h
  | t t =>
    simp only at h;by_cases b:(Nat.ble (off+n.getD 1) cs.length&&DV.okL (Cg cs off (n.getD 1)))=true
    ·rw[Ac b]at h;rw[Ai]at b;cases i:FR n (JP (.s t) off (Cg cs off (n.getD 1)))with
     |none=>rw[i]at h;cases h
     | some w=>
       rw[i]at h;simp only[Cq,Ao,An]at h;obtain⟨rfl,rfl⟩:=h;have:=PU i;rw[Sw,Ww]at this;simp only[DV.enc,SD,FN];rw[Ac (Dg b.1)];exact this
    rw[Ae b]at h;cases h
theorem Zcg{a:DV}{p:PV}{g:PX}{v:DV}(b:EV a p)(h:pN a=some (g,v)):dQ p=some v.enc:=by cases h
theorem gV:∀ {a b:List DV} {t:BX},Mt a b=some t->∃x y,Eu (DV.d6 a)=some x/\Eu (DV.d6 b)=some y/\x.length=a.length/\y.length=b.length/\x.all V.flat=true/\y.all V.flat=true/\Em x y=some t.b
 | [],[],t,h=>by
   simp only[Mt,Ao]at h;subst h;exact⟨[],[],rfl,rfl,rfl,rfl,rfl,rfl,rfl⟩
 | .int k a::x,.int k' b::y,t,h=>by
   unfold Mt at h;by_cases s:IntKind.same k k'=true
   ·rw[Ac s]at h;have:=Xn s;subst this;have n:∀j,Mt x y=some j->t.b=((a == b)&&j.b)->∃i g,Eu (DV.d6 (.int k a::x))=some i/\Eu (DV.d6 (.int k b::y))=some g/\i.length=(DV.int k a::x).length/\g.length=(DV.int k b::y).length/\i.all V.flat=true/\g.all V.flat=true/\Em i g=some t.b:=by
     intro j ht u;obtain⟨i,g,h1,G,F,D,C,A,z⟩:=gV ht;refine⟨.int k a::i,.int k b::g,?_,?_,by simp[F],by simp[D],?_,?_,?_⟩
     ·simp only[DV.d6,DV.enc,Eu,h1]
     ·simp only[DV.d6,DV.enc,Eu,G]
     ·simp only[FW,V.flat,C,Dy]
     ·simp only[FW,V.flat,A,Dy]
     simp only[Em,Qx,AS];cases q:(a == b)with
     |true=>simp only[z,u,q,HG]
     |false=>simp only[u,q,LP]
    split at h
    ·simp only[Ao]at h;subst h;exact n (.lit true) rfl (by simp only[BX.b,Yb,MT])
    cases ht:Mt x y with
    |none=>rw[ht]at h;cases h
    | some j=>
      rw[ht]at h;simp only[Cq,Ao]at h;subst h;exact n j ht (by simp only[BX.b,Yb,de])
   rw[Ae s]at h;cases h
theorem Zdb{n:Nat}{i:Bool}{a b:DV}{p q:PV}{g:PX}{v:DV}(u:EV a p)(s:EV b q)(h:Yt n i a b=some (g,v)):Tl n i p q=some v.enc:=by
 cases a<;>try (simp only[Yt,reduceCtorEq]at h)
 case agg a=>
  cases b<;>try (simp only[Yt,reduceCtorEq]at h)
  case agg b=>
   rw[u.of (by simp),s.of (by simp)];by_cases j:(a.length == n&&b.length == n)=true
   ·rw[Ac j]at h;rw[Ai,A7,A7]at j;cases ht:Mt a b with
    |none=>rw[ht]at h;cases h
    | some t=>
      rw[ht]at h;simp only[Gz,Ao,An]at h;obtain⟨rfl,rfl⟩:=h;obtain⟨x,y,h1,G,F,D,C,A,z⟩:=gV ht;simp only[DV.enc,Tl,h1,G];rw[Ac ⟨F.trans j.1,D.trans j.2,C,A⟩,z];cases i<;>simp only[Cq,AS,AY,A3,dF]
   rw[Ae j]at h;cases h
theorem Xv{d:DS}{s:PS}(h:ES d s)(x:Option T_):match x.map (λx=>x.dev d.sl),x.map (λx=>x.t7 s.sl)with|none,none=>True|some v,some p=>EV v p|_,_=>False:=by
 cases x with
 |none=>exact trivial
 |some x=>exact x.dev_ev h
theorem EK{s:PS}{o:Option PV}{v:PV}(h:o=some v):Dv s o=some (v,s):=by rw[h];rfl
theorem ZbY{d:DS}{s:PS}{o:o_}{m:Bool}{g:PX}{v:DV}(hs:ES d s)(h:QD o (λx=>x.dev d.sl)=some (g,v))(b:g.den):BA m o s=some (v.enc,s):=by
 have E:=λx=>T_.dev_ev hs x;cases o<;>simp only[QD,reduceCtorEq]at h<;>simp only[BA];case z_ x=>exact EK (ZbG (E x) h)
 case bin op x y=>exact EK (Zdn (E x) (E y) h b)
 case eqB neg x y=>exact EK (ZcD (E x) (E y) h)
 case eqN neg x y=>
  split at h
  ·exact EK (ZcW (E x) h)
  cases h
 case eqA n neg x y=>exact EK (Zdb (E x) (E y) h)
 case un op x=>exact EK (Zeq (E x) h)
 case conv k x=>exact EK (ZbT (E x) h)
 case bstr x=>exact EK (Zcg (E x) h)
 case slice w x lo hi=>exact EK (Zbu (Xv hs lo) (Xv hs hi) (E x) h b)
 case substr x lo hi=>exact EK (ZaL (Xv hs lo) (Xv hs hi) (E x) h b)
 case f5 off a=>exact EK (Zai (E a) h)
 case field off n x=>exact EK (Zbe (E x) h)
 case p_ w x i=>exact EK (Zaq (E x) (E i) h b)
 case index x i=>exact EK (Zbp (E x) (E i) h b)
 case len x=>exact EK (Zdj (E x) h)
 case lenT x=>exact EK (ZbJ (E x) h)
 case minI x y=>exact EK (Zcp (E x) (E y) h)
 case maxI x y=>exact EK (Zdd (E x) (E y) h)
theorem aZ:∀(l:List DV),DV.okL l=true->EL (news (QC l)) (Dj (DV.d6 l))
 |[],_=>trivial
 | v::r,h=>by
   simp only[DV.okL,Ai]at h;refine⟨?_,aZ r h.2⟩;simp only[JE];by_cases b:v.own=true
   ·rw[Ac b,Ac b];exact .inl rfl
   rw[Ae b,Ae b];exact .inr rfl
theorem EL.spliceE:∀ {a:List DC} {b:List PV} (n:Nat) {g:List DV} {i:List PV},EL a b->EL (Go.Ag.news g) i->EL (JD a n g) (AX b n i)
 |[],[],_,[],[],_,_=>trivial
 |[],[],_,_::_,_::_,_,_=>trivial
 |_::_,_::_,0,[],[],h,_=>h
 |_::_,_::_,_+1,[],[],h,_=>h
 |_::_,_::_,0,_::_,_::_,h,hv=>⟨hv.1,EL.spliceE 0 h.2 hv.2⟩
 |_::_,_::_,n+1,_::_,_::_,h,hv=>⟨h.1,EL.spliceE n h.2 hv⟩
theorem EBx.to{a:List DC}{b:List PV}(h:EBx a b)(g:0<a.length):EL a b:=by
 rcases h with rfl|h
 ·exact absurd g (Nat.lt_irrefl 0)
 exact h
theorem EBx.s_{a:List DC}{b:List PV}{o n:Nat}(h:EBx a b)(g:o+n<=a.length)(i:DV.okL (Cg (Cn a) o n)=true):o+n<=b.length/\Go.Ag.s_ b o n=DV.d6 (Cg (Cn a) o n):=by
 rcases h with rfl|h
 ·have h0:o=0/\n=0:=(by simp only[A8]at g;omega);rw[h0.1,h0.2];exact⟨EE _,by cases b<;>rfl⟩
 exact⟨by rw[<- h.len];exact g,h.s_ o n i⟩
theorem EBx.d_{a:List DC}{b:List PV}{o:Nat}{g:List DV}{i:List PV}(h:EBx a b)(j:EL (news g) i)(n:o+g.length<=a.length):EBx (JD a o g) (AX b o i):=by
 rcases h with rfl|h
 ·have h0:g=[]:=by
   cases g with
   |nil=>rfl
   |cons _ _=>simp only[A0,A8]at n;omega
  subst h0;exact .inl rfl
 exact .inr (h.spliceE o j)
theorem WE:∀(l:List DV) (o n:Nat),o+n<=l.length->(Cg l o n).length=n
 |[],0,0,_=>rfl
 |[],0,_+1,h=>by simp only[A8]at h;omega
 |[],_+1,_,h=>by simp only[A8]at h;omega
 |_::_,0,0,_=>rfl
 |_::r,0,n+1,h=>by simp only[Cg,A0]at h ⊢;rw[WE r 0 n (by omega)]
 |_::r,o+1,n,h=>by simp only[Cg,A0]at h ⊢;exact WE r o n (by omega)
theorem aI:∀(l:List DV),(QC l).length=l.length
 |[]=>rfl
 |_::r=>by simp only[QC,A0,aI r]
theorem ZD{m:Bool}{i:Nat}{n:Option Nat}{a:DV}{p:PV}{d z:DS}{s:PS}{g:PX}{v:DV}(hs:ES d s)(A:EV a p)(h:MH m i n a d=some (g,v,z)):∃x,IM m i n p s=some (v.enc,x)/\ES z x:=by
 cases a<;>try (simp only[MH,reduceCtorEq]at h)
 case box j o=>
  rw[A.of (by simp)];by_cases u:(i == j&&Nat.ble (o+n.getD 1) (B0 d.bx i).length&&DV.okL (Cg (Cn (B0 d.bx i)) o (n.getD 1)))=true
  ·rw[Ac u]at h;rw[Ai,Ai,A7]at u;obtain⟨⟨rfl,t⟩,y⟩:=u;have t:=Dg t;obtain⟨h1,C⟩:=(hs.bx.get i).s_ t y;simp only[DV.enc,IM];rw[Ac ⟨trivial,h1⟩,C];cases m with
   | true=>
     simp only[AS]at h ⊢;cases q:FR n (Cg (Cn (B0 d.bx i)) o (n.getD 1))with
     |none=>rw[q]at h;cases h
     | some w=>
       rw[q]at h;simp only[Cq,Ao,An]at h;obtain⟨_,rfl,rfl⟩:=h;rw[PU q];refine⟨_,rfl,hs.sl.clr _,hs.bx.put i ((hs.bx.get i).d_ (aZ _ y) ?_),hs.hp⟩;rw[aI,WE _ _ _ (by rw[WY];exact t)];exact t
   | false=>
     simp only[AY,A3]at h ⊢;cases q:FR n (JP (.b i) o (Cg (Cn (B0 d.bx i)) o (n.getD 1)))with
     |none=>rw[q]at h;cases h
     | some w=>
       rw[q]at h;simp only[Cq,Ao,An]at h;obtain⟨_,rfl,rfl⟩:=h;have:=PU q;rw[Sw]at this;rw[this];exact⟨_,rfl,hs⟩
  rw[Ae u]at h;cases h
theorem o6{q q':Ql}(h:OG q=some q'):∀(t:CT) (x:t.D),(CT.dv q' t x).enc=LW q (CT.enc t x)
 |.int _,_|.bool,_|.str,_=>by cases q<;>rfl
 |.ifc,_=>by cases q<;>rfl
 |.sl r,l=>by cases q<;>simp only[OG,Ao,reduceCtorEq]at h<;>subst h<;>rfl
 |.slf r,l=>by cases q<;>simp only[OG,Ao,reduceCtorEq]at h<;>subst h<;>rfl
theorem nX{q q':Ql}(h:OG q=some q'):∀(r:RT) (x:r.D),DV.d6 (r.dv q' x)=F3 q (RT.enc r x)
 |.one t,x=>by simp only[RT.dv,DV.d6,RT.enc,F3,o6 h t x]
 |.cons t r,x=>by simp only[RT.dv,DV.d6,RT.enc,F3,o6 h t x.1,nX h r x.2]
theorem Lp(r:RT):∀(l:List r.D) (j:Nat),j<l.length->Bo (l.map (RT.enc r)) j=RT.enc r (l.getD j r.dflt)
 |_::_,0,_=>rfl
 |_::l,j+1,h=>Lp r l j (by simpa using h)
theorem aF(q:Ql):∀(l:List PV) (o n:Nat),F3 q (Go.Ag.s_ l o n)=Go.Ag.s_ (F3 q l) o n
 |[],0,0=>rfl
 |[],0,_+1=>rfl
 |[],_+1,_=>rfl
 |_::_,0,0=>rfl
 |c::r,0,n+1=>by simp only[Go.Ag.s_,F3,aF q r 0 n]
 |_::r,o+1,n=>by simp only[Go.Ag.s_,F3];exact aF q r o n
theorem ZcK{q q':Ql}(h:OG q=some q'):q.isOwn=false:=by cases q<;>first|rfl|cases h
theorem ZH{m:Bool}{n:Option Nat}{a:DV}{p:PV}{d D:DS}{s:PS}{g:PX}{v:DV}(hs:ES d s)(C:EV a p)(h:LA m n a d=some (g,v,D))(F:g.den):∃z,IP m n p s=some (v.enc,z)/\ES D z:=by
 cases a<;>try (simp only[LA,reduceCtorEq]at h)
 case ep q r l j o=>
  rw[C.of (by simp)];cases x:OG q with
  |none=>rw[x]at h;cases h
  | some q'=>
    rw[x]at h;simp only at h;by_cases t:Nat.ble (o+n.getD 1) r.w=true
    ·rw[Ac t]at h;cases b:FR n (Cg (r.dv q' (So l j r.dflt)) o (n.getD 1))with
     |none=>rw[b]at h;cases h
     | some w=>
       rw[b]at h;simp only[Cq,Ao,An]at h;obtain⟨rfl,rfl,rfl⟩:=h;have y:j<l.length:=F;have:=PU b;rw[Ww,nX x,<- aF,cL,<- Lp r l j y]at this;simp only[DV.enc,IP,Bd];rw[Ac ⟨y,by rw[Lp r l j y,Lx];exact Dg t,ZcK x⟩,this];exact⟨_,rfl,hs⟩
    rw[Ae t]at h;cases h
 case ptr i o=>
  rw[C.of (by simp)];by_cases t:(Nat.blt i d.hp.length&&Nat.ble (o+n.getD 1) (B0 d.hp i).length&&DV.okL (Cg (Cn (B0 d.hp i)) o (n.getD 1)))=true
  ·rw[Ac t]at h;rw[Ai,Ai]at t;obtain⟨⟨hi,u⟩,A⟩:=t;have hi:=Dg hi;have u:=Dg u;obtain⟨h1,G⟩:=(hs.hp.get i).s_ u A;simp only[DV.enc,IP];rw[Ac ⟨by rw[<- hs.hp.len];exact hi,h1⟩,G];cases m with
   | true=>
     simp only[AS]at h ⊢;cases b:FR n (Cg (Cn (B0 d.hp i)) o (n.getD 1))with
     |none=>rw[b]at h;cases h
     | some w=>
       rw[b]at h;simp only[Cq,Ao,An]at h;obtain⟨_,rfl,rfl⟩:=h;rw[PU b];refine⟨_,rfl,hs.sl.clr _,hs.bx,hs.hp.put i ((hs.hp.get i).d_ (aZ _ A) ?_)⟩;rw[aI,WE _ _ _ (by rw[WY];exact u)];exact u
   | false=>
     simp only[AY,A3]at h ⊢;cases b:FR n (JP (.h i) o (Cg (Cn (B0 d.hp i)) o (n.getD 1)))with
     |none=>rw[b]at h;cases h
     | some w=>
       rw[b]at h;simp only[Cq,Ao,An]at h;obtain⟨_,rfl,rfl⟩:=h;have:=PU b;rw[Sw]at this;rw[this];exact⟨_,rfl,hs⟩
  rw[Ae t]at h;cases h
theorem EL.clrD(hd:Hd):∀ {a:List DC} {b:List PV},EL a b->EL (DA hd a) b
 |[],[],_=>trivial
 | c::_,p::_,h=>by
   refine⟨?_,EL.clrD hd h.2⟩;by_cases g:c.v.g_ hd=true
   ·rw[Ac g];exact .inl rfl
   rw[Ae g];exact h.1
theorem EL.clr2{hd:Hd}{a:List DC}{b:List PV}{x:Bool}{y:Bool}(h:EL a b)(g:x=false->y=false):EL (if x then DA hd a else a) (if y then Go.Ag.clr hd b else b):=by
 cases x with
 |false=>rw[g rfl];exact h
 | true=>cases y with
   |false=>exact h.clrD hd
   |true=>exact h.clr hd
theorem Zba{i n:Nat}{a x:T_}{d I:DS}{s:PS}{g:PX}{v:DV}(hs:ES d s)(h:SE i n a x d=some (g,v,I)):∃D,Su i n a x s=some (v.enc,D)/\ES I D:=by
 unfold SE at h;have G:=a.dev_ev hs;generalize hm:Bv x d=w at h;obtain⟨w,d1⟩:=w;simp only at h;generalize a.dev d.sl=av at h G;cases av<;>try (simp only[reduceCtorEq]at h)
 case box j o=>
  by_cases z:(i == j&&Nat.blt i d1.bx.length&&w.cells.length == n&&Nat.ble (o+n) (B0 d1.bx i).length&&DN w.cells)=true
  ·rw[Ac z]at h;simp only[Ai,A7]at z;obtain⟨⟨⟨⟨rfl,hi⟩,rfl⟩,b⟩,u⟩:=z;have hi:=Dg hi;have b:=Dg b;have J:=Sy w u;obtain⟨F,t⟩:=Fj x hs (by rw[hm];exact J);rw[hm]at F t;simp only[Ao,An]at h;obtain⟨rfl,rfl,rfl⟩:=h;have q:=t.bx.get i;have A:o+w.cells.length<=(Aq (f' x s).2.bx i).length:=by
    rcases q with C|C
    ·rw[C]at b;simp only[A8]at b;omega
    rw[<- C.len];exact b
   simp only[Su,G.of (by simp:DV.box i o≠.any),DV.enc,F,Mr,FN,JE];rw[Ac ⟨trivial,by rw[<- t.bx.len];exact hi,trivial,A,NM _ u⟩];refine⟨_,rfl,t.sl.clr2 λy=>?_,t.bx.put i (q.d_ (EL.news w.cells) b),t.hp⟩;simp only[Ce,BZ]at y ⊢;rw[(q.s_ b y.1.1).2,P3];exact⟨y.1.2,y.2⟩
  rw[Ae z]at h;cases h
theorem NT{r' r:RT}{l:List r'.D}{m:List r.D}(h:HS l=some m):r'=r/\l.map (RT.enc r')=m.map (RT.enc r):=by
 unfold HS at h;split at h
 ·rename_i g;have b:=RT.beq_eq g;subst b;simp only[Ao]at h;subst h;exact⟨rfl,rfl⟩
 cases h
theorem eH:∀ {t:CT} {v:DV} {x:t.D},t.of v=some x->v.enc=CT.enc t x
 | .int k,.int k' n,x,h=>by
   have h':(if k=k' then some n else none)=some x:=h;by_cases g:k=k'
   ·subst g;rw[Ac rfl]at h';have:n=x:=C9 h';rw[<- this];rfl
   rw[Ae g]at h';cases h'
 | .bool,.bool b,x,h=>by
   have:b.b=x:=C9 h;rw[<- this];rfl
 | .str,.str s,x,h=>by
   have:s=x:=C9 h;rw[<- this];rfl
 | .ifc,.ifc b,x,h=>by
   have:b=x:=C9 h;rw[<- this];rfl
 | .sl r,.nil .own,x,h=>by
   have:([]:List r.D)=x:=C9 h;rw[<- this];rfl
 | .sl r,.sl .own r' l,x,h=>by
   show PV.sl .own _=PV.sl .own _;rw[(NT (r:=r) h).2]
 | .slf r,.nil .Z',x,h=>by
   have:([]:List r.D)=x:=C9 h;rw[<- this];rfl
 | .slf r,.sl .Z' r' l,x,h=>by
   show PV.sl .Z' _=PV.sl .Z' _;rw[(NT (r:=r) h).2]
theorem Tf:∀ {r:RT} {g:List DV} {x:r.D},r.of g=some x->DV.d6 g=RT.enc r x
 |.one t,[v],x,h=>by simp only[DV.d6,RT.enc,eH (t:=t) h]
 | .cons t r,v::g,x,h=>by
   have h':(match t.of v,r.of g with|some x,some y=>some (x,y)|_,_=>none)=some x:=h;clear h;cases h1:t.of v with
   |none=>rw[h1]at h';cases h'
   | some a=>
     cases i:r.of g with
     |none=>rw[h1,i]at h';cases h'
     | some b=>
       rw[h1,i]at h';have:(a,b)=x:=C9 h';rw[<- this];simp only[DV.d6,RT.enc,eH h1,Tf i]
theorem ot:∀(t:CT) (x:t.D),(CT.dv .own t x).enc=CT.enc t x
 |.int _,_|.bool,_|.str,_|.ifc,_|.sl _,_|.slf _,_=>rfl
theorem di:∀(r:RT) (x:r.D),DV.d6 (r.dv .own x)=RT.enc r x
 |.one t,x=>by simp only[RT.dv,DV.d6,RT.enc,ot t x]
 |.cons t r,x=>by simp only[RT.dv,DV.d6,RT.enc,ot t x.1,di r x.2]
theorem bq(r:RT):∀(l:List r.D) (j:Nat) (y:r.D),Di (l.map (RT.enc r)) j (RT.enc r y)=(l.set j y).map (RT.enc r)
 |[],_,_=>rfl
 |_::_,0,_=>rfl
 |_::l,j+1,y=>by simp only[Cf,Di,List.set_cons_succ,bq r l j y]
theorem Ze1(v:DV)(p:List Nat)(h:v.S_ p≠.any):v.enc.S_ p=(v.S_ p).enc:=by
 cases v with
 | agg cs=>
   match p with
   |[]=>exact absurd rfl h
   |[c]=>exact(P5 cs c).symm
   |_::_::_=>exact absurd rfl h
 | f7 vs=>
   match p with
   |[]=>exact absurd rfl h
   |[_]=>exact absurd rfl h
   | [i,c]=>
     show Aa (Aa (DV.d6 vs) i).cells c=(Hh (Hh vs i).cells c).enc;rw[<- P5,Mr,<- P5]
   |_::_::_::_=>exact absurd rfl h
 |any=>match p with|[]=>exact absurd rfl h|[0]=>exact absurd rfl h|[_+1]=>exact absurd rfl h|0::_::_=>exact absurd rfl h|(_+1)::_::_=>exact absurd rfl h
 |undef=>match p with|[]=>exact absurd rfl h|[0]=>rfl|[_+1]=>exact absurd rfl h|0::_::_=>exact absurd rfl h|(_+1)::_::_=>exact absurd rfl h
 |bool _=>match p with|[]=>exact absurd rfl h|[0]=>rfl|[_+1]=>exact absurd rfl h|0::_::_=>exact absurd rfl h|(_+1)::_::_=>exact absurd rfl h
 |int _ _=>match p with|[]=>exact absurd rfl h|[0]=>rfl|[_+1]=>exact absurd rfl h|0::_::_=>exact absurd rfl h|(_+1)::_::_=>exact absurd rfl h
 |str _=>match p with|[]=>exact absurd rfl h|[0]=>rfl|[_+1]=>exact absurd rfl h|0::_::_=>exact absurd rfl h|(_+1)::_::_=>exact absurd rfl h
 |ifc _=>match p with|[]=>exact absurd rfl h|[0]=>rfl|[_+1]=>exact absurd rfl h|0::_::_=>exact absurd rfl h|(_+1)::_::_=>exact absurd rfl h
 |nil _=>match p with|[]=>exact absurd rfl h|[0]=>rfl|[_+1]=>exact absurd rfl h|0::_::_=>exact absurd rfl h|(_+1)::_::_=>exact absurd rfl h
 |sl _ _ _=>match p with|[]=>exact absurd rfl h|[0]=>rfl|[_+1]=>exact absurd rfl h|0::_::_=>exact absurd rfl h|(_+1)::_::_=>exact absurd rfl h
 |ep _ _ _ _ _=>match p with|[]=>exact absurd rfl h|[0]=>rfl|[_+1]=>exact absurd rfl h|0::_::_=>exact absurd rfl h|(_+1)::_::_=>exact absurd rfl h
 |box _ _=>match p with|[]=>exact absurd rfl h|[0]=>rfl|[_+1]=>exact absurd rfl h|0::_::_=>exact absurd rfl h|(_+1)::_::_=>exact absurd rfl h
 |ptr _ _=>match p with|[]=>exact absurd rfl h|[0]=>rfl|[_+1]=>exact absurd rfl h|0::_::_=>exact absurd rfl h|(_+1)::_::_=>exact absurd rfl h
theorem Hu{d:DS}{s:PS}(hs:ES d s)(hd:Hd)(p:List Nat)(h:Cc d hd p≠.any):C6 s hd p=(Cc d hd p).enc:=by
 cases hd with
 | s t=>
   rcases hs.sl.get t with j|j
   ·simp only[Cc,j]at h;refine absurd ?_ h
    match p with
    |[]=>rfl
    |[0]=>rfl
    |[_+1]=>rfl
    |0::_::_=>rfl
    |(_+1)::_::_=>rfl
   simp only[Cc,C6,j]at h ⊢;exact Ze1 _ p h
 | b i=>
   match p with
   |[]=>exact absurd rfl h
   |_::_::_=>exact absurd rfl h
   | [c]=>
     rcases hs.bx.get i with g|g
     ·simp only[Cc,g,Bs]at h;exact absurd rfl h
     exact(g.get c).of h
 | h i=>
   match p with
   |[]=>exact absurd rfl h
   |_::_::_=>exact absurd rfl h
   | [c]=>
     rcases hs.hp.get i with g|g
     ·simp only[Cc,g,Bs]at h;exact absurd rfl h
     exact(g.get c).of h
 |x i=>exact absurd rfl h
theorem ZgE(v:DV)(p:List Nat)(w:DV):v.enc.setc p w.enc=(v.setc p w).enc:=by
 cases v with
 | agg cs=>
   match p with
   |[]=>rfl
   |[c]=>exact congrArg PV.agg (WI cs c w).symm
   |_::_::_=>rfl
 | f7 vs=>
   match p with
   |[]=>rfl
   |[0]=>rfl
   |[_+1]=>rfl
   |0::_::_=>rfl
   |(_+1)::_::_=>rfl
 |any=>match p with|[]=>rfl|[0]=>rfl|[_+1]=>rfl|0::_::_=>rfl|(_+1)::_::_=>rfl
 |undef=>match p with|[]=>rfl|[0]=>rfl|[_+1]=>rfl|0::_::_=>rfl|(_+1)::_::_=>rfl
 |bool _=>match p with|[]=>rfl|[0]=>rfl|[_+1]=>rfl|0::_::_=>rfl|(_+1)::_::_=>rfl
 |int _ _=>match p with|[]=>rfl|[0]=>rfl|[_+1]=>rfl|0::_::_=>rfl|(_+1)::_::_=>rfl
 |str _=>match p with|[]=>rfl|[0]=>rfl|[_+1]=>rfl|0::_::_=>rfl|(_+1)::_::_=>rfl
 |ifc _=>match p with|[]=>rfl|[0]=>rfl|[_+1]=>rfl|0::_::_=>rfl|(_+1)::_::_=>rfl
 |nil _=>match p with|[]=>rfl|[0]=>rfl|[_+1]=>rfl|0::_::_=>rfl|(_+1)::_::_=>rfl
 |sl _ _ _=>match p with|[]=>rfl|[0]=>rfl|[_+1]=>rfl|0::_::_=>rfl|(_+1)::_::_=>rfl
 |ep _ _ _ _ _=>match p with|[]=>rfl|[0]=>rfl|[_+1]=>rfl|0::_::_=>rfl|(_+1)::_::_=>rfl
 |box _ _=>match p with|[]=>rfl|[0]=>rfl|[_+1]=>rfl|0::_::_=>rfl|(_+1)::_::_=>rfl
 |ptr _ _=>match p with|[]=>rfl|[0]=>rfl|[_+1]=>rfl|0::_::_=>rfl|(_+1)::_::_=>rfl
theorem EBx.put{a:List DC}{b:List PV}{v:DV}{p:PV}(n:Nat)(h:EBx a b)(g:EV v p):EBx (Dz a n v) (BQ b n p):=by
 rcases h with rfl|h
 ·exact .inl rfl
 exact .inr (h.put n g)
theorem Mm{d:DS}{s:PS}(hs:ES d s)(hd:Hd)(p:List Nat)(w:DV)(h:Cc d hd p≠.any):ES (HP d w hd p) (y_ s w.enc hd p):=by
 cases hd with
 | s t=>
   refine⟨(hs.sl.put t (.inr ?_)).clr _,hs.bx,hs.hp⟩;rcases hs.sl.get t with g|g
   ·simp only[Cc,g]at h;refine absurd ?_ h
    match p with
    |[]=>rfl
    |[0]=>rfl
    |[_+1]=>rfl
    |0::_::_=>rfl
    |(_+1)::_::_=>rfl
   rw[g];exact ZgE _ p w
 | b i=>
   match p with
   |[]=>exact absurd rfl h
   |_::_::_=>exact absurd rfl h
   |[c]=>exact⟨hs.sl.clr _,hs.bx.put i ((hs.bx.get i).put c (.inr rfl)),hs.hp⟩
 | h i=>
   match p with
   |[]=>exact absurd rfl h
   |_::_::_=>exact absurd rfl h
   |[c]=>exact⟨hs.sl.clr _,hs.bx,hs.hp.put i ((hs.hp.get i).put c (.inr rfl))⟩
 |x i=>exact absurd rfl h
theorem Zam{n:Nat}{a x:T_}{d d':DS}{s:PS}{g:PX}{v:DV}(hs:ES d s)(h:SP n a x d=some (g,v,d'))(hg:g.den):∃O,Si n a x s=some (v.enc,O)/\ES d' O:=by
 unfold SP at h;generalize hm:Bv x d=w at h;obtain⟨w,d1⟩:=w;simp only at h;have R:DN w.cells=true->ES d1 (f' x s).2/\(f' x s).1=w.enc:=λb=>by
  obtain⟨F,t⟩:=Fj x hs (by rw[hm];exact Sy w b);rw[hm]at F t;exact⟨t,F⟩
 split at h
 ·rename_i i o N;by_cases A:(Nat.blt i d1.hp.length&&w.cells.length == n&&Nat.ble (o+n) (B0 d1.hp i).length&&DN w.cells)=true
  ·rw[Ac A]at h;simp only[Ai,A7]at A;obtain⟨⟨⟨hi,rfl⟩,u⟩,b⟩:=A;have hi:=Dg hi;have u:=Dg u;obtain⟨t,F⟩:=R b;have z:=a.dev_ev t;rw[N]at z;simp only[Ao,An]at h;obtain⟨rfl,rfl,rfl⟩:=h;have D:=t.hp.get i;have L:o+w.cells.length<=(Aq (f' x s).2.hp i).length:=by
    rcases D with M|M
    ·rw[M]at u;simp only[A8]at u;omega
    rw[<- M.len];exact u
   simp only[Si,z.of (by simp:DV.ptr i o≠.any),DV.enc,F,Mr,FN,JE];rw[Ac ⟨by rw[<- t.hp.len];exact hi,trivial,L,NM _ b⟩];refine⟨_,rfl,t.sl.clr2 λG=>?_,t.bx,t.hp.put i (D.d_ (EL.news w.cells) u)⟩;simp only[Ce,BZ]at G ⊢;rw[(D.s_ u G.1.1).2,P3];exact⟨G.1.2,G.2⟩
  rw[Ae A]at h;cases h
 ·rename_i hd p r0 l0 j o N;cases I:Cc d1 hd [p]<;>rw[I]at h<;>try (cases h;done)
  rename_i q r l;cases q<;>try (cases h;done)
  simp only at h;by_cases A:(w.cells.length == n&&Nat.ble (o+n) r.w&&DN w.cells)=true
  ·rw[Ac A]at h;simp only[Ai,A7]at A;obtain⟨⟨rfl,u⟩,b⟩:=A;have u:=Dg u;cases C:r.of (MF (r.dv .own (So l j r.dflt)) o w.cells)with
   |none=>rw[C]at h;cases h
   | some y=>
     rw[C]at h;simp only[Ao,An]at h;obtain⟨rfl,rfl,rfl⟩:=h;obtain⟨t,F⟩:=R b;have z:=a.dev_ev t;rw[N]at z;have U:Cc d1 hd [p]≠.any:=(by rw[I];simp);have J:j<l.length:=hg;have e1:=Hu t hd [p] U;rw[I]at e1;have Z:=Tf C;rw[V8,di,cL,<- Lp r l j J]at Z;have Y:=Mm t hd [p] (.sl .own r (lSet l j y)) U;simp only[Si,z.of (by simp:DV.ep (.g_ hd [p] true) r0 l0 j o≠.any),DV.enc,F,Mr,FN,e1,Bd];rw[Ac ⟨J,trivial,by rw[Lp r l j J,Lx];exact u,NM _ b⟩,Z,bq];simp only[DV.enc,dH]at Y;exact⟨_,rfl,by rw[dH];exact Y⟩
  rw[Ae A]at h;cases h
 cases h
theorem jj{m:Bool}{n:Option Nat}{a:DV}{p:PV}{d b:DS}{s:PS}{r:Ec}{g:PX}{v:DV}(hs:ES d s)(q:EV a p)(h:Of m n a d=some r)(i:r=some (g,v,b))(j:g.den):MV m n p s=some (some v.enc)/\b=d:=by cases h
theorem Zdk{m:Bool}{n:Option Nat}{a:DV}{p:PV}{d:DS}{s:PS}(b:EV a p)(g:a≠.any)(h:Of m n a d=none):MV m n p s=none:=rfl
theorem Zd6{i c:Nat}{a:DV}{p:PV}(g:EV a p)(b:a.nestX i c=true):p.nestX i c=true:=by
 rw[g.of (λe=>by rw[e]at b;cases b)];unfold DV.nestX at b;split at b
 ·exact b
 cases b
theorem ZfA{a:DV}{p:PV}(b:EV a p)(g:a≠.any):p.nest=a.nest:=rfl
theorem Zaj{n:Nat}{hd:Hd}{p k j o:Nat}{w:DV}{i:PV}{d q:DS}{s:PS}{g:PX}{v:DV}(hs:ES d s)(t:EV w i)(h:bW n hd p k j o w d=some (g,v,q))(u:g.den):∃b,bh n hd p k j o i s=some (v.enc,b)/\ES q b:=by cases h
theorem Zb3{d:DS}{s:PS}(x:T_)(h:ES d s)(b:(Fm x d).1.ok=true):(fzOut x s).1=(Fm x d).1.enc/\ES (Fm x d).2 (fzOut x s).2:=by
 cases x with
 | c v=>
   refine⟨?_,h⟩;refine(Sr v λq=>?_).symm;simp only[Fm,q,DV.ok,AY]at b
 | t n =>
   simp only[Fm,TK,fzOut,Yw]at b ⊢;rcases h.sl.get n with i|i
   ·rw[i]at b;simp only[DV.own,AY,A3,DV.ok]at b
   rw[i,JE];by_cases j:(Bs d.sl n).own=true
   ·simp only[j,AS]at b ⊢;by_cases g:(Bs d.sl n).retok=true
    ·rw[Ac g,Ac (ky _ g),<- cR];exact⟨rfl,(h.sl.put n (.inr rfl)).clr _,h.bx,h.hp⟩
    rw[Ae g]at b;cases b
   simp only[j]at b ⊢;exact⟨rfl,h⟩
theorem Zf0(hd:Hd)(v:DV)(h:v≠.any):(eD hd v).enc=Jf hd v.enc:=by
 cases v<;>first|rfl|exact absurd rfl h|skip
 case nil q=>cases q<;>rfl
 case sl q r l=>cases q<;>rfl
 case agg cs=>show PV.agg _=PV.agg _;rw[Sw]
 case f7 vs=>
  simp only[eD,DV.enc,Jf,P3];split<;>rfl
theorem Zch{d:DS}{s:PS}(x:T_)(h:ES d s)(b:(Lu x d).1.ok=true):(MW x s).1=(Lu x d).1.enc/\ES (Lu x d).2 (MW x s).2:=by
 cases x with
 | c v=>
   refine⟨?_,h⟩;refine(Sr v λi=>?_).symm;simp only[Lu,i,DV.ok,AY]at b
 | t n=>
   simp only[Lu]at b;have g:Bs d.sl n≠.any:=(by intro e;rw[e]at b;cases b);simp only[Lu,MW];rw[(h.sl.get n).of g,Zf0 _ _ g];exact⟨rfl,h⟩
theorem Jv:∀(l:List V),HF l=true->l.all V.flat=true/\DV.d6 (Hm l)=l.map BJ/\DN (Hm l)=true
 |[],_=>⟨rfl,rfl,rfl⟩
 | v::r,h=>by
   simp only[HF,Ai]at h;obtain⟨h1,i,g⟩:=Jv r h.2;have b:(JV v).cell=true/\(JV v).enc=BJ v:=(by cases v<;>first|exact⟨rfl,rfl⟩|(have:=h.1;cases this));refine⟨by simp only[FW,h.1,h1,Dy],?_,?_⟩
   ·simp only[Hm,DV.d6,Cf,i,b.2]
   simp only[Hm,DN,b.1,g,Dy]
theorem ZJ:∀(j:List (Nat×Nat×T_)) {cs cs':List DV} {d i:DS} {s:PS},ES d s->JN cs j d=some (cs',i)->∃b,EI (DV.d6 cs) j s=some (DV.d6 cs',b)/\ES i b
 | [],cs,cs',d,i,s,hs,h=>by
   simp only[JN,Ao,An]at h;obtain⟨rfl,rfl⟩:=h;exact⟨s,rfl,hs⟩
 | (off,size,x)::r,cs,cs',d,i,s,hs,h=>by
   unfold JN at h;by_cases g:((Bv x d).1.cells.length == size&&Nat.ble (off+size) cs.length&&DN (Bv x d).1.cells)=true
   ·rw[Ac g]at h;simp only[Ai,A7]at g;obtain⟨⟨h1,u⟩,n⟩:=g;obtain⟨t,q⟩:=Fj x hs (Sy _ n);obtain⟨b,z,y⟩:=ZJ r q h;refine⟨b,?_,y⟩;unfold EI;rw[t,Mr,FN,FN,Ac ⟨h1,Dg u,NM _ n⟩,<- V8];exact z
   rw[Ae g]at h;cases h
theorem ki:∀(n:Nat) (l:List DV),DV.d6 (l.take n)=(DV.d6 l).take n
 |0,_=>rfl
 |_+1,[]=>rfl
 |n+1,_::r=>by simp only[dc,DV.d6,ki n r]
theorem ke:∀(n:Nat) (l:List DV),DV.d6 (l.drop n)=(DV.d6 l).drop n
 |0,_=>rfl
 |_+1,[]=>rfl
 |n+1,_::r=>by simp only[List.drop_succ_cons,DV.d6,ke n r]
theorem ib(r:RT)(w:Nat):∀(n:Nat) (cs:List DV) (l:List r.D),Qk r w n cs=some l->EH w n (DV.d6 cs)=l.map (RT.enc r)
 | 0,cs,l,h=>by
   simp only[Qk,Ao]at h;subst h;rfl
 | n + 1,cs,l,h=>by
   unfold Qk at h;cases h1:r.of (cs.take w)with
   |none=>rw[h1]at h;cases h
   | some x=>
     cases b:Qk r w n (cs.drop w)with
     |none=>rw[h1,b]at h;cases h
     | some y=>
       rw[h1,b]at h;have:=C9 h;subst this;simp only[EH,Cf,<- ki,<- ke,Tf h1,ib r w n _ y b]
def DSrc.es:DSrc->List (List PV)
 |.nil=>[]|.sl r l=>l.map (RT.enc r)
theorem Tg{r:RT}{x:DSrc}{l:List r.D}(h:x.to r=some l):x.es=l.map (RT.enc r):=by
 cases x with
 |nil=>have:=C9 h;subst this;rfl
 |sl r' l'=>exact(NT h).2
theorem mL:∀(t:CT) (x:t.D),t.flat=true->(CT.enc t x).flatc=true
 |.int _,_,_|.bool,_,_|.str,_,_|.ifc,_,_=>rfl
theorem mN:∀(r:RT) (x:r.D),r.flat=true->HR (RT.enc r x)=true
 |.one t,x,h=>by simp only[RT.enc,HR,mL t x h,Dy]
 | .cons t r,x,h=>by
   simp only[RT.flat,Ai]at h;simp only[RT.enc,HR,mL t x.1 h.1,mN r x.2 h.2,Dy]
theorem lz(r:RT)(h:r.flat=true):∀(l:List r.D),JT (l.map (RT.enc r))=true
 |[]=>rfl
 |x::l=>by simp only[Cf,JT,mN r x h,lz r h l,Dy]
theorem ZgH{w:Nat}{x:DSrc}(h:x.w w=true):CR w x.es=true:=by
 cases x with
 |nil=>rfl
 | sl r l=>
   have:r.w=w:=(by simpa [DSrc.w]using h);subst this;exact FL r l
theorem mv_ok{d:DS}{x:T_}(v:DV)(g:x.dev d.sl=v)(i:v.own=true)(j:∀hd,v.g_ hd=false)(q:v.ok=true):(Bv x d).1=v:=by
 cases x with
 |c c=>exact g
 | t n=>
   have b:Bs d.sl n=v:=g;simp only[Bv,TH,b,i,j,AS,AY,A3]
theorem ZU{w:Nat}{y:T_}{d C:DS}{s:PS}{i:DSrc}(hs:ES d s)(h:J3 w y d=some (i,C)):∃I,Fq w y s=some (i.es,I)/\ES C I:=by
 have n:=y.dev_ev hs;unfold J3 at h;unfold Fq;cases u:y.dev d.sl with
 | str t=>
   rw[u]at h n;simp only at h;by_cases g:(w == 1)=true
   ·rw[Ac g]at h;simp only[Ao,An]at h;obtain⟨rfl,rfl⟩:=h;rw[n.of (by simp)];simp only[DV.enc];rw[Ac (by simpa using g)];refine⟨s,?_,hs⟩;have:(DSrc.sl (.one (.int .u8)) (sRow t)).es=t.map λb=>[PV.fl (.int .u8 b.toNat)]:=by
     unfold DSrc.es;rw[ZiB];clear n u;induction t with
     |nil=>rfl
     |cons b t L=>exact congrArg (List.cons _) L
    rw[this]
   rw[Ae g]at h;cases h
 | nil q=>
   rw[u]at h n;have hp:=n.of (by simp);cases q with
   | own=>
     simp only[Ao,An]at h;obtain⟨rfl,rfl⟩:=h;have G:=mv_ok (.nil .own) u rfl (λ_=>rfl) rfl;obtain⟨J,D⟩:=Fj y hs (by rw[G];rfl);rw[hp];exact⟨_,rfl,D⟩
   | Z'=>
     simp only[Ao,An]at h;obtain⟨rfl,rfl⟩:=h;rw[hp];exact⟨s,rfl,hs⟩
   | i6 w'=>
     simp only[Ao,An]at h;obtain⟨rfl,rfl⟩:=h;rw[hp];exact⟨s,rfl,hs⟩
   | g_ a b c=>
     simp only[Ao,An]at h;obtain⟨rfl,rfl⟩:=h;rw[hp];exact⟨s,rfl,hs⟩
   | pre a b=>
     simp only[Ao,An]at h;obtain⟨rfl,rfl⟩:=h;rw[hp];exact⟨s,rfl,hs⟩
 | sl q r l=>
   rw[u]at h n;have hp:=n.of (by simp);have j:(if (r.w == w&&r.flat)=true then some (DSrc.sl r l,d)else none)=some (i,C)->CR w (l.map (RT.enc r))=true/\JT (l.map (RT.enc r))=true/\i.es=l.map (RT.enc r)/\C=d:=λh=>by
    by_cases g:(r.w == w&&r.flat)=true
    ·rw[Ac g]at h;simp only[Ai,A7]at g;simp only[Ao,An]at h;obtain⟨rfl,rfl⟩:=h;exact⟨g.1▸FL r l,lz r g.2 l,rfl,rfl⟩
    rw[Ae g]at h;cases h
   rw[hp];cases q with
   | own=>
     simp only at h;by_cases g:(r.w == w)=true
     ·rw[Ac g]at h;simp only[Ao,An]at h;obtain⟨rfl,rfl⟩:=h;have G:=mv_ok (.sl .own r l) u rfl (λ_=>rfl) rfl;obtain⟨J,D⟩:=Fj y hs (by rw[G];rfl);have F:r.w=w:=(by simpa using g);simp only[DV.enc];rw[Ac (F▸FL r l)];exact⟨_,rfl,D⟩
     rw[Ae g]at h;cases h
   |i6 w'=>cases h
   |Z'=>obtain⟨A,z,x,rfl⟩:=j h;simp only[DV.enc];rw[Ac ⟨A,z⟩,x];exact⟨s,rfl,hs⟩
   |g_ a b c=>obtain⟨A,z,x,rfl⟩:=j h;simp only[DV.enc];rw[Ac ⟨A,z⟩,x];exact⟨s,rfl,hs⟩
   |pre a b=>obtain⟨A,z,x,rfl⟩:=j h;simp only[DV.enc];rw[Ac ⟨A,z⟩,x];exact⟨s,rfl,hs⟩
 |_=>rw[u]at h;cases h
theorem Oq{x:DSrc}{r:RT}{l:List r.D}(h:x.to r=some l):x.es.length=l.length:=by rw[Tg h,Bd]
theorem jR{w:Nat}{x:T_}{b:DSrc}{d N:DS}{s:PS}{g:PX}{v:DV}(hs:ES d s)(h:M7 w x b d=some (g,v,N))(A:g.den):∃M,I9 w x b.es s=some (v.enc,M)/\ES N M:=by
 have J:=x.dev_ev hs;unfold M7 at h;by_cases h0:(Nat.blt 0 w&&b.w w)=true
 ·simp only [h0,Gp,AY,A3]at h;simp only[Ai]at h0;have i:0<w:=Dg h0.1;unfold I9;cases G:x.dev d.sl with
  | nil q =>
    rw[G]at h J;rw[J.of (by simp)];cases q with
    | own=>
      have j:=mv_ok (.nil .own) G rfl (λ_=>rfl) rfl;obtain⟨O,I⟩:=Fj x hs (by rw[j];rfl);cases b with
      | nil=>
        simp only[Ao,An]at h;obtain⟨rfl,rfl,rfl⟩:=h;simp only[DV.enc,DSrc.es,A8,E1,Ln,Qy];rw[Ac ⟨i,rfl,EE _⟩];exact⟨_,rfl,I⟩
      | sl r l=>
        simp only[Ao,An]at h;obtain⟨rfl,rfl,rfl⟩:=h;simp only[DV.enc,DSrc.es,A8,BF,Bd,CJ];rw[Ac ⟨i,rfl,A⟩];exact⟨_,rfl,I⟩
    | g_ hd p t=>
      cases t with
      | false=>cases p with
        |nil=>cases h
        |cons c p=>cases p<;>cases h
      | true=>
        match p,h with
        | [c],h=>
          simp only at h ⊢;cases j:Cc d hd [c]<;>rw[j]at h<;>try (cases h;done)
          rename_i q;cases q<;>try (cases h;done)
          have D:Cc d hd [c]≠.any:=(by rw[j];simp);have C:=Hu hs hd [c] D;rw[j]at C;have F:=Mm hs hd [c] .undef D;cases b with
          | nil=>
            simp only[Ao,An]at h;obtain⟨rfl,rfl,rfl⟩:=h;simp only[DV.enc,C,DSrc.es,A8,E1,Ln,Qy];rw[Ac ⟨i,rfl,trivial,EE _⟩];exact⟨_,rfl,F⟩
          | sl r l=>
            simp only[Ao,An]at h;obtain⟨rfl,rfl,rfl⟩:=h;simp only[DV.enc,C,DSrc.es,A8,BF,Bd,CJ];rw[Ac ⟨i,rfl,trivial,A⟩];exact⟨_,rfl,F⟩
        |[],h=>cases h
        |_::_::_,h=>cases h
    |_=>cases h
  | sl q r l=>
    rw[G]at h J;rw[J.of (by simp)];cases q with
    | own =>
      simp only at h;by_cases y:(r.w == w)=true
      ·rw[Ac y]at h;have u:r.w=w:=(by simpa using y);cases ht:b.to r with
       |none=>rw[ht]at h;cases h
       | some n=>
         rw[ht]at h;simp only[Ao,An]at h;obtain⟨rfl,rfl,rfl⟩:=h;have j:=mv_ok (.sl .own r l) G rfl (λ_=>rfl) rfl;obtain⟨O,I⟩:=Fj x hs (by rw[j];rfl);simp only[DV.enc,Bd,Oq ht];rw[Ac ⟨i,u▸FL r l,A⟩,Tg ht];refine⟨_,?_,I⟩;simp only[Od,FT]
      rw[Ae y]at h;cases h
    | g_ hd p t=>
      cases t with
      | false=>cases p with
        |nil=>cases h
        |cons c p=>cases p<;>cases h
      | true=>
        match p,h with
        | [c],h=>
          simp only at h ⊢;cases j:Cc d hd [c]<;>rw[j]at h<;>try (cases h;done)
          rename_i q z L;cases q<;>try (cases h;done)
          simp only at h;by_cases y:(z.w == w)=true
          ·rw[Ac y]at h;have u:z.w=w:=(by simpa using y);cases ht:b.to z with
           |none=>rw[ht]at h;cases h
           | some n=>
             rw[ht]at h;simp only[Ao,An]at h;obtain⟨rfl,rfl,rfl⟩:=h;have D:Cc d hd [c]≠.any:=(by rw[j];simp);have C:=Hu hs hd [c] D;rw[j]at C;have F:=Mm hs hd [c] .undef D;simp only[DV.enc,C,Bd,Oq ht];rw[Ac ⟨i,u▸FL z L,A.1,A.2⟩,Tg ht];refine⟨_,?_,F⟩;simp only[Od,FT,DV.enc]
          rw[Ae y]at h;cases h
        |[],h=>cases h
        |_::_::_,h=>cases h
    | pre hd p=>
     match p,h with
     | [c],h=>
       simp only at h ⊢;cases j:Cc d hd [c]<;>rw[j]at h<;>try (cases h;done)
       rename_i q z L;cases q<;>try (cases h;done)
       simp only at h;by_cases y:(z.w == w)=true
       ·rw[Ac y]at h;have u:z.w=w:=(by simpa using y);cases ht:b.to z with
        |none=>rw[ht]at h;cases h
        | some n=>
          rw[ht]at h;simp only[Ao,An]at h;obtain⟨rfl,rfl,rfl⟩:=h;have D:Cc d hd [c]≠.any:=(by rw[j];simp);have C:=Hu hs hd [c] D;rw[j]at C;have F:=Mm hs hd [c] .undef D;simp only[DV.enc,C,Bd,Oq ht];rw[Ac ⟨i,u▸FL z L,A.1,A.2.1,A.2.2.2⟩,Tg ht,Ae (Nat.ne_of_gt A.2.2.1)];refine⟨_,?_,F⟩;simp only[Od,cu,Yu,FT,XK,DV.enc]
       rw[Ae y]at h;cases h
     |[],h=>cases h
     |_::_::_,h=>cases h
    |_=>cases h
  |_=>rw[G]at h;cases h
 simp only[h0]at h;cases h
theorem kt{b:List V}(h:HF b=true):EL (news (Hm b)) (b.map BJ):=by rw[<- (Jv b h).2.1];exact EL.news _
theorem EB.append{c:List DC}{p:List PV}:∀ {a:List (List DC)} {b:List (List PV)},EB a b->EBx c p->EB (a++[c]) (b++[p])
 |[],[],_,h=>⟨h,trivial⟩
 |_::_,_::_,h,h'=>⟨h.1,EB.append h.2 h'⟩
theorem Zbc(r:RT)(x:r.D)(n:Nat):(List.replicate n x).map (RT.enc r)=List.replicate n (RT.enc r x):=by simp
theorem V6{m:Bool}{o:o_}{ty:Option RT}{d R:DS}{s:PS}{g:PX}{v:DV}(hs:ES d s)(h:Bz m o ty d=some (g,v,R))(C:g.den):∃u,BA m o s=some (v.enc,u)/\ES R u:=by
 have E:=λx=>T_.dev_ev hs x;have N:(QD o (λx=>x.dev d.sl)).map (λr=>(r.1,r.2,d))=some (g,v,R)->∃u,BA m o s=some (v.enc,u)/\ES R u:=λh=>by
  cases hp:QD o (λx=>x.dev d.sl)with
  |none=>rw[hp]at h;cases h
  | some r=>
    obtain⟨g1,v1⟩:=r;rw[hp]at h;simp only[Cq,Ao,An]at h;obtain⟨rfl,rfl,rfl⟩:=h;exact⟨s,ZbY hs hp C,hs⟩
 cases o<;>first|exact N h|skip
 case mv x=>
  cases m with
  | false=>
    simp only[Bz,AY,A3]at h;by_cases J:(Bv x d).1.ok=true
    ·rw[Ac J]at h;simp only[Ao,An]at h;obtain⟨rfl,rfl,rfl⟩:=h;obtain⟨I,A⟩:=Fj x hs J;exact⟨_,by simp only[BA,AY,A3,<- I],A⟩
    rw[Ae J]at h;cases h
  | true=>
    simp only[Bz,AS]at h;by_cases J:(Lu x d).1.ok=true
    ·rw[Ac J]at h;simp only[Ao,An]at h;obtain⟨rfl,rfl,rfl⟩:=h;obtain⟨I,A⟩:=Zch x hs J;exact⟨_,by simp only[BA,AS,<- I],A⟩
    rw[Ae J]at h;cases h
 case d7 i n a=>exact ZD hs (E a) h
 case i5 n a=>
  simp only[Bz]at h;cases q:Of m n (a.dev d.sl) d with
  | none=>
    rw[q]at h;obtain⟨u,h1,G⟩:=ZH hs (E a) h C;refine⟨u,?_,G⟩;have f9:a.dev d.sl≠.any:=by
     intro e;simp only[e,LA]at h;cases h
    simp only[BA,Zdk (s:=s) (E a) f9 q];exact h1
  | some r=>
    rw[q]at h;obtain⟨h1,rfl⟩:=jj hs (E a) q h C;exact⟨s,by simp only[BA,h1];rfl,hs⟩
 case loadX i c n a=>
  simp only[Bz]at h;split at h
  ·rename_i M;cases q:Of m n (a.dev d.sl) d with
   |none=>rw[q]at h;cases h
   | some r=>
     rw[q]at h;obtain⟨h1,rfl⟩:=jj hs (E a) q h C;exact⟨s,by simp only[BA,Zd6 (E a) M,AS,h1];rfl,hs⟩
  cases h
 case V_ i n a x=>exact Zba hs h
 case f8 n a x=>
  simp only[Bz]at h;split at h
  ·rename_i d8;have q:=ZfA (E a) (λe=>by rw[e]at d8;cases d8);split at h
   ·rename_i hd p k j o hm;obtain⟨u,h1,G⟩:=Zaj hs (E x) h C;exact⟨u,by simp only[BA,q,hm];exact h1,G⟩
   rename_i hm;obtain⟨u,h1,G⟩:=Zam hs h C;exact⟨u,by simp only[BA,q,hm];exact h1,G⟩
  cases h
 case appN w x y=>
  simp only[Bz]at h;split at h
  ·rename_i M;cases h1:J3 w y d with
   |none=>rw[h1]at h;cases h
   | some r=>
     obtain⟨Y,d1⟩:=r;rw[h1]at h;obtain⟨s1,F,L⟩:=ZU hs h1;obtain⟨U,e3,e4⟩:=jR L h C;have ex:=(E x).of (by rw[M];simp);rw[M]at ex;exact⟨U,by simp only[BA,ex,DV.enc,F];exact e3,e4⟩
  cases h
 case app w x y=>
  simp only[Bz]at h;cases h1:J3 w y d with
  |none=>rw[h1]at h;cases h
  | some r=>
    obtain⟨Y,d1⟩:=r;rw[h1]at h;obtain⟨s1,F,L⟩:=ZU hs h1;obtain⟨U,e3,e4⟩:=jR L h C;exact⟨U,by simp only[BA,F];exact e3,e4⟩
 case e_ i zs=>
  simp only[Bz]at h;by_cases b:(Nat.blt i d.bx.length&&HF zs)=true
  ·rw[Ac b]at h;simp only[Ai]at b;simp only[Ao,An]at h;obtain⟨rfl,rfl,rfl⟩:=h;simp only[BA];rw[Ac ⟨by rw[<- hs.bx.len];exact Dg b.1,(Jv zs b.2).1⟩];exact⟨_,rfl,(hs.sl.r_ i).clr _,hs.bx.put i (.inr (kt b.2)),hs.hp⟩
  rw[Ae b]at h;cases h
 case boxB i n x=>
  simp only[Bz]at h;by_cases b:(Nat.blt i (Bv x d).2.bx.length&&(Bv x d).1.cells.length == n&&DN (Bv x d).1.cells)=true
  ·rw[Ac b]at h;simp only[Ai,A7]at b;obtain⟨⟨h1,rfl⟩,D⟩:=b;obtain⟨I,A⟩:=Fj x hs (Sy _ D);simp only[Ao,An]at h;obtain⟨rfl,rfl,rfl⟩:=h;simp only[BA,I,Mr,FN];rw[Ac ⟨by rw[<- A.bx.len];exact Dg h1,trivial,NM _ D⟩];exact⟨_,rfl,(A.sl.r_ i).clr _,A.bx.put i (.inr (EL.news _)),A.hp⟩
  rw[Ae b]at h;cases h
 case allocH zs=>
  simp only[Bz]at h;by_cases b:HF zs=true
  ·rw[Ac b]at h;simp only[Ao,An]at h;obtain⟨rfl,rfl,rfl⟩:=h;simp only[BA];rw[Ac (Jv zs b).1,<- hs.hp.len];exact⟨_,rfl,hs.sl.clr _,hs.bx,hs.hp.append (.inr (kt b))⟩
  rw[Ae b]at h;cases h
 case boxH n x=>
  simp only[Bz]at h;by_cases b:((Bv x d).1.cells.length == n&&DN (Bv x d).1.cells)=true
  ·rw[Ac b]at h;simp only[Ai,A7]at b;obtain⟨rfl,D⟩:=b;obtain⟨I,A⟩:=Fj x hs (Sy _ D);simp only[Ao,An]at h;obtain⟨rfl,rfl,rfl⟩:=h;simp only[BA,I,Mr,FN];rw[Ac ⟨trivial,NM _ D⟩,<- A.hp.len];exact⟨_,rfl,A.sl.clr _,A.bx,A.hp.append (.inr (EL.news _))⟩
  rw[Ae b]at h;cases h
 case build zs ps=>
  simp only[Bz]at h;by_cases b:HF zs=true
  ·rw[Ac b]at h;cases O:JN (Hm zs) ps d with
   |none=>rw[O]at h;cases h
   | some r=>
     obtain⟨cs,d1⟩:=r;rw[O]at h;simp only[Ao,An]at h;obtain⟨rfl,rfl,rfl⟩:=h;obtain⟨u,F,L⟩:=ZJ ps hs O;rw[(Jv zs b).2.1]at F;simp only[BA];rw[Ac (Jv zs b).1,F];exact⟨u,rfl,L⟩
  rw[Ae b]at h;cases h
 case mkSlice w z len=>
  simp only[Bz]at h;cases he:len.dev d.sl with
  | int k n=>
    rw[he]at h;cases k<;>try (cases h)
    simp only at h;split at h
    ·rename_i r hr;split at h
     ·rename_i x M;split at h
      ·rename_i b;simp only[Ai,A7]at b;obtain⟨⟨⟨h1,G⟩,D⟩,h4⟩:=b;simp only[Ao,An]at h;obtain⟨rfl,rfl,rfl⟩:=h;have hp:=E len;rw[he]at hp;simp only[BA,hp.of (by simp),DV.enc];rw[Ac ⟨C.1,h1,Dg D,(Jv z h4).1,C.2⟩];refine⟨s,?_,hs⟩;rw[nW];rw[Zbc,<- Tf M,(Jv z h4).2.1]
      cases h
     cases h
    cases h
  |_=>rw[he]at h;cases h
 case d5 w n zs ps=>
  simp only[Bz]at h;by_cases q:(n == 0)=true
  ·rw[Ac q]at h;simp only[Ao,An]at h;obtain⟨rfl,rfl,rfl⟩:=h;simp only[BA];rw[Ac (by simpa using q)];refine⟨s,?_,hs⟩;cases ty<;>rfl
  rw[Ae q]at h;split at h
  ·rename_i b;simp only[Ai,A7]at b;obtain⟨⟨h1,G⟩,D⟩:=b;split at h
   ·rename_i cs d1 O;split at h
    ·rename_i r hr;split at h
     ·split at h
      ·rename_i l hl;simp only[Ao,An]at h;obtain⟨rfl,rfl,rfl⟩:=h;obtain⟨u,F,L⟩:=ZJ ps hs O;rw[(Jv zs h1).2.1]at F;simp only[BA];rw[Ae (by simpa using q),Ac ⟨(Jv zs h1).1,G,Dg D⟩,F];refine⟨u,?_,L⟩;simp only[Cq,DV.enc,ib r w n cs l hl]
      cases h
     cases h
    cases h
   cases h
  cases h
 case extract x i=>
  simp only[Bz]at h;cases x with
  |c v=>cases h
  | t t =>
    simp only at h;have ht:EV (Bs d.sl t) (Aa s.sl t):=hs.sl.get t;cases hv:Bs d.sl t with
    | f7 vs=>
      rw[hv]at h ht;simp only at h;have hp:Aa s.sl t= .f7 (DV.d6 vs):=ht.of (by simp);split at h
      ·rename_i b;simp only[Ai]at b;simp only[BA,hp];rw[FN,Ac (show i<vs.length from Dg b.1),<- P5,JE,Xg];split at h
       ·rename_i Z;rw[Ac Z];split at h
        ·cases h
        rename_i hb;rw[Ae hb];simp only[Ao,An]at h;obtain⟨rfl,rfl,rfl⟩:=h;refine⟨_,rfl,?_,hs.bx,hs.hp⟩;refine(EL.put t hs.sl (.inr ?_)).clr _;show PV.f7 _=PV.f7 _;rw[WI];rfl
       rename_i Z;rw[Ae Z];simp only[Ao,An]at h;obtain⟨rfl,rfl,rfl⟩:=h;exact⟨_,rfl,hs⟩
      cases h
    |_=>rw[hv]at h;cases h
theorem cI{w:Nat}{b:DSrc}{r:RT}{n:List r.D}(h:b.to r=some n)(l:List r.D)(g:r.w=w):l.map (RT.enc r)++b.es=(l++n).map (RT.enc r)/\CR w (l.map (RT.enc r)++b.es)=true:=by
 have:l.map (RT.enc r)++b.es=(l++n).map (RT.enc r):=by rw[Tg h,FT]
 exact⟨this,by rw[this];exact g▸FL r (l++n)⟩
theorem XI{w:Nat}{es:List (List PV)}(h:CR w es=true):Fe [(0,w)] (.sl .own es)=some (.sl (.i6 w) es):=by
 show FB w (.sl .own es)=_;simp only[FB];rw[Ac (.inr h)]
theorem ZhL{w:Nat}{es:List (List PV)}:Fe [(0,w)] (.sl (.i6 w) es)=some (.sl (.i6 w) es):=by
 show FB w (.sl (.i6 w) es)=_;unfold FB;exact Ac (.inr rfl)
theorem SW{w:Nat}{es:List (List PV)}{c:Prop} [Decidable c](h:CR w es=true):Fe [(0,w)] (.sl (if c then .i6 w else .own) es)=some (.sl (.i6 w) es):=by
 split
 ·exact ZhL
 exact XI h
theorem Zcc{w:Nat}{x:T_}{i:DSrc}{d d':DS}{s:PS}{g:PX}{v:DV}(hs:ES d s)(h:Tc w x i d=some (g,v,d'))(z:g.den):∃U O,I9 w x i.es s=some (O,U)/\Fe [(0,w)] O=some v.enc/\ES d' U:=by
 have L:=x.dev_ev hs;unfold Tc at h;by_cases h0:(Nat.blt 0 w&&i.w w)=true
 ·simp only [h0,Gp,AY,A3]at h;simp only[Ai]at h0;have j:0<w:=Dg h0.1;have C:=ZgH h0.2;unfold I9;cases F:x.dev d.sl with
  | nil q =>
    rw[F]at h L;rw[L.of (by simp)];cases q with
    | own=>
      have y:=mv_ok (.nil .own) F rfl (λ_=>rfl) rfl;obtain⟨M,A⟩:=Fj x hs (by rw[y];rfl);simp only[DV.enc,A8,BF,CJ];cases i with
      | nil=>
        simp only[MR,Ao,An]at h;obtain⟨rfl,rfl,rfl⟩:=h;rw[Ac ⟨j,rfl,by simp[DSrc.es,AD]⟩];exact⟨_,_,rfl,XI C,A⟩
      | sl r l=>
        simp only[MR,Ao,An]at h;obtain⟨rfl,rfl,rfl⟩:=h;rw[Ac ⟨j,rfl,by simpa [DSrc.es,PX.den]using z⟩];exact⟨_,_,rfl,XI C,A⟩
    | i6 w'=>
      simp only at h;by_cases b:(w' == w)=true
      ·rw[Ac b]at h;have b:w'=w:=(by simpa using b);subst b;have y:=mv_ok (.nil (.i6 w')) F rfl (λ_=>rfl) rfl;obtain⟨M,A⟩:=Fj x hs (by rw[y];rfl);simp only[DV.enc,A8,BF,CJ];cases i with
       | nil=>
         simp only[MR,Ao,An]at h;obtain⟨rfl,rfl,rfl⟩:=h;rw[Ac ⟨j,trivial,rfl,by simp[DSrc.es,AD]⟩];exact⟨_,_,rfl,SW C,A⟩
       | sl r l=>
         simp only[MR,Ao,An]at h;obtain⟨rfl,rfl,rfl⟩:=h;rw[Ac ⟨j,trivial,rfl,by simpa [DSrc.es,PX.den]using z⟩];exact⟨_,_,rfl,SW C,A⟩
      rw[Ae b]at h;cases h
    |_=>cases h
  | sl q r l=>
    rw[F]at h L;rw[L.of (by simp)];cases q with
    | own =>
      simp only at h;by_cases t:(r.w == w)=true
      ·rw[Ac t]at h;have b:r.w=w:=(by simpa using t);cases ht:i.to r with
       |none=>rw[ht]at h;cases h
       | some n=>
         rw[ht]at h;simp only[Ao,An]at h;obtain⟨rfl,rfl,rfl⟩:=h;have y:=mv_ok (.sl .own r l) F rfl (λ_=>rfl) rfl;obtain⟨M,A⟩:=Fj x hs (by rw[y];rfl);obtain⟨I,G⟩:=cI ht l b;simp only[DV.enc,Bd,Oq ht];rw[Ac ⟨j,b▸FL r l,z⟩];exact⟨_,_,rfl,by rw[XI G,I];simp only[Od],A⟩
      rw[Ae t]at h;cases h
    | i6 w'=>
      simp only at h;by_cases t:(w' == w&&r.w == w)=true
      ·rw[Ac t]at h;simp only[Ai,A7]at t;obtain⟨rfl,b⟩:=t;cases ht:i.to r with
       |none=>rw[ht]at h;cases h
       | some n=>
         rw[ht]at h;simp only[Ao,An]at h;obtain⟨rfl,rfl,rfl⟩:=h;have y:=mv_ok (.sl (.i6 w') r l) F rfl (λ_=>rfl) rfl;obtain⟨M,A⟩:=Fj x hs (by rw[y];rfl);obtain⟨I,G⟩:=cI ht l b;simp only[DV.enc,Bd,Oq ht];rw[Ac ⟨j,trivial,b▸FL r l,z⟩];exact⟨_,_,rfl,by rw[SW G,I];simp only[Od],A⟩
      rw[Ae t]at h;cases h
    | pre hd p=>
     match p,h with
     | [c],h=>
       simp only at h ⊢;cases y:Cc d hd [c]<;>rw[y]at h<;>try (cases h;done)
       rename_i q u J;have Y:Cc d hd [c]≠.any:=(by rw[y];simp);have N:=Hu hs hd [c] Y;rw[y]at N;have Z:=Mm hs hd [c] .undef Y;have R:∀ {n:List u.D},i.to u=some n->u.w=w->(J.map (RT.enc u)).take l.length++i.es=(i9 (lTake J (lN l)) n).map (RT.enc u)/\CR w ((J.map (RT.enc u)).take l.length++i.es)=true:=by
        intro n ht b;have:=cI ht (J.take l.length) b;rw[XK]at this;simp only[Od,cu,Yu];exact this
       cases q<;>try (cases h;done)
       case own=>
        simp only at h;by_cases t:(u.w == w)=true
        ·rw[Ac t]at h;have b:u.w=w:=(by simpa using t);cases ht:i.to u with
         |none=>rw[ht]at h;cases h
         | some n=>
           rw[ht]at h;simp only[Ao,An]at h;obtain⟨rfl,rfl,rfl⟩:=h;obtain⟨I,G⟩:=R ht b;simp only[DV.enc,N,Bd,Oq ht];rw[Ac ⟨j,b▸FL u J,z.1,z.2.1,z.2.2⟩];exact⟨_,_,rfl,by rw[SW G,I],Z⟩
        rw[Ae t]at h;cases h
       case i6 w'=>
        simp only at h;by_cases t:(w' == w&&u.w == w)=true
        ·rw[Ac t]at h;simp only[Ai,A7]at t;obtain⟨rfl,b⟩:=t;cases ht:i.to u with
         |none=>rw[ht]at h;cases h
         | some n=>
           rw[ht]at h;simp only[Ao,An]at h;obtain⟨rfl,rfl,rfl⟩:=h;obtain⟨I,G⟩:=R ht b;simp only[DV.enc,N,Bd,Oq ht];rw[Ac ⟨j,trivial,b▸FL u J,z.1,z.2.1,z.2.2⟩];exact⟨_,_,rfl,by rw[SW G,I],Z⟩
        rw[Ae t]at h;cases h
     |[],h=>cases h
     |_::_::_,h=>cases h
    |_=>cases h
  |_=>rw[F]at h;cases h
 simp only[h0]at h;cases h
theorem dU{w:Nat}{v v':DV}(h:TG w v=some v'):FB w v.enc=some v'.enc:=by
 unfold TG at h;split at h
 ·cases h;simp only[DV.enc,FB];rw[Ac (.inr rfl)]
 ·split at h
  ·rename_i b;simp only[B7,A7]at b;cases h;simp only[DV.enc,FB];rw[Ac b]
  cases h
 ·rename_i r l;split at h
  ·rename_i b;simp only[B7,A7]at b;cases h;simp only[DV.enc,FB];rw[Ac (b.imp id λb=>b▸FL r l)]
  cases h
 ·split at h
  ·rename_i b;simp only[B7,A7]at b;cases h;simp only[DV.enc,FB];rw[Ac b]
  cases h
 cases h
theorem oe:∀(ws:List (Nat×Nat)) {l l':List DV},Yo ws l=some l'->OP ws (DV.d6 l)=some (DV.d6 l')
 |[],l,l',h=>by cases h;rfl
 | (c,w)::r,l,l',h=>by
   unfold Yo at h;split at h
   ·rename_i v b;unfold OP;rw[<- P5,dU b];simp only;rw[<- WI];exact oe r h
   cases h
theorem ZiP{ws:List (Nat×Nat)}{v v':DV}(h:OQ ws v=some v'):Fe ws v.enc=some v'.enc:=by
 unfold OQ at h;split at h
 ·simp only[B9]at h;obtain⟨l',h1,rfl⟩:=h;show (OP ws _).map PV.agg=_;rw[oe ws h1];rfl
 ·rename_i q;split at h
  ·exact dU (v:=.nil q) h
  cases h
 ·rename_i q r l;split at h
  ·exact dU (v:=.sl q r l) h
  cases h
 cases h
theorem Zbx{ws:List (Nat×Nat)}{m:Bool}{o:o_}{ty:Option RT}{d j:DS}{s:PS}{g:PX}{v:DV}(hs:ES d s)(h:Ol ws m o ty d=some (g,v,j))(A:g.den):∃i b,BA m o s=some (b,i)/\Fe ws b=some v.enc/\ES j i:=by
 have t:(match Bz m o ty d with|some (g,v,st)=>(match OQ ws v with|some v=>some (g,v,st)|none=>none)|none=>none)=some (g,v,j)->∃i b,BA m o s=some (b,i)/\Fe ws b=some v.enc/\ES j i:=by
  intro h;cases h1:Bz m o ty d with
  |none=>rw[h1]at h;cases h
  | some r=>
    obtain⟨M,C,d1⟩:=r;rw[h1]at h;simp only at h;cases q:OQ ws C with
    |none=>rw[q]at h;cases h
    | some v2=>
      rw[q]at h;simp only[Ao,An]at h;obtain⟨rfl,rfl,rfl⟩:=h;obtain⟨i,z,u⟩:=V6 hs h1 A;exact⟨i,_,z,ZiP q,u⟩
 cases o<;>first|exact t h|skip
 case app w x y=>
  simp only[Ol]at h;split at h
  ·rename_i w';split at h
   ·rename_i n;have n:=A7.mp n;subst n;cases h1:J3 w' y d with
    |none=>rw[h1]at h;cases h
    | some r=>
      obtain⟨F,d1⟩:=r;rw[h1]at h;obtain⟨L,z,u⟩:=ZU hs h1;obtain⟨D,b,J,I,G⟩:=Zcc u h A;exact⟨D,b,by simp only[BA,z];exact J,I,G⟩
   cases h
  cases h
def Chg:List DC->List DC->Prop
 |_,[]=>True|[],c::r=>c.d=true/\Chg [] r|b::a,c::r=>(c.d=true\/c=b)/\Chg a r
def j_:List (List DC)->List (List DC)->Prop
 |_,[]=>True|[],c::r=>Chg [] c/\j_ [] r|b::a,c::r=>Chg b c/\j_ a r
structure d9 (x y:DS):Prop where
 sl:Chg x.sl y.sl
 bx:j_ x.bx y.bx
 hp:j_ x.hp y.hp
theorem Chg.refl:∀(x:List DC),Chg x x
 |[]=>trivial
 |_::r=>⟨.inr rfl,Chg.refl r⟩
theorem Chg.trans:∀ {x y z:List DC},Chg x y->Chg y z->Chg x z
 |_,_,[],_,_=>by cases ‹List DC›<;>trivial
 |[],[],_::_,_,h=>h
 |_::a,[],c::r,_,h=>⟨.inl h.1,Chg.trans (x:=a) (y:=[]) (by cases a<;>trivial) h.2⟩
 | [],b::a,c::r,h,h'=>by
   refine⟨?_,Chg.trans h.2 h'.2⟩;rcases h'.1 with h1|h1
   ·exact h1
   rw[h1];exact h.1
 | e::x,b::a,c::r,h,h'=>by
   refine⟨?_,Chg.trans h.2 h'.2⟩;rcases h'.1 with h1|h1
   ·exact .inl h1
   rw[h1];exact h.1
theorem j_.refl:∀(x:List (List DC)),j_ x x
 |[]=>trivial
 |b::r=>⟨Chg.refl b,j_.refl r⟩
theorem j_.trans:∀ {x y z:List (List DC)},j_ x y->j_ y z->j_ x z
 |_,_,[],_,_=>by cases ‹List (List DC)›<;>trivial
 |[],[],_::_,_,h=>h
 |b::a,[],c::r,_,h=>⟨Chg.trans (y:=[]) (by trivial) h.1,j_.trans (x:=a) (y:=[]) (by cases a<;>trivial) h.2⟩
 |[],b::a,c::r,h,h'=>⟨h.1.trans h'.1,j_.trans h.2 h'.2⟩
 |e::x,b::a,c::r,h,h'=>⟨h.1.trans h'.1,j_.trans h.2 h'.2⟩
theorem d9.refl(x:DS):d9 x x:=⟨Chg.refl _,j_.refl _,j_.refl _⟩
theorem d9.trans{x y z:DS}(h:d9 x y)(h':d9 y z):d9 x z:=⟨h.sl.trans h'.sl,h.bx.trans h'.bx,h.hp.trans h'.hp⟩
theorem Chg.put:∀(x:List DC) (n:Nat) (v:DV),Chg x (Dz x n v)
 |[],_,_=>trivial
 |_::r,0,_=>⟨.inl rfl,Chg.refl r⟩
 |_::r,n+1,v=>⟨.inr rfl,Chg.put r n v⟩
theorem Chg.clr(hd:Hd):∀(x:List DC),Chg x (DA hd x)
 |[]=>trivial
 | c::r=>by
   refine⟨?_,Chg.clr hd r⟩;split
   ·exact .inl rfl
   exact .inr rfl
theorem Chg.r_(i:Nat):∀(x:List DC),Chg x (R8 i x)
 |[]=>trivial
 | c::r=>by
   refine⟨?_,Chg.r_ i r⟩;split
   ·exact .inl rfl
   exact .inr rfl
theorem Chg.keep(live:List Nat):∀(n:Nat) (x:List DC),Chg x (Xw live n x)
 |_,[]=>trivial
 | n,c::r=>by
   refine⟨?_,Chg.keep live (n+1) r⟩;split
   ·split
    ·exact .inl rfl
    exact .inr rfl
   exact .inl rfl
theorem Chg.trim(live:List Nat):∀(n:Nat) (x:List DC),Chg x (X8 live n x)
 |_,[]=>trivial
 | n,c::r=>by
   refine⟨?_,Chg.trim live (n+1) r⟩;split
   ·exact .inr rfl
   exact .inl rfl
theorem Chg.d_:∀(x:List DC) (n:Nat) (b:List DV),Chg x (JD x n b)
 |[],n,[]=>trivial
 |_::_,0,[]=>Chg.refl _
 |_::_,_+1,[]=>Chg.refl _
 |[],_,_::_=>trivial
 |_::r,0,v::b=>⟨.inl rfl,Chg.d_ r 0 b⟩
 |_::r,n+1,v::b=>⟨.inr rfl,Chg.d_ r n (v::b)⟩
theorem Chg.news:∀(x:List DC) (b:List DV),Chg x (Go.Ag.news b)
 |x,[]=>by cases x<;>trivial
 |[],v::b=>⟨rfl,Chg.news [] b⟩
 |_::a,v::b=>⟨.inl rfl,Chg.news a b⟩
theorem j_.put:∀(x:List (List DC)) (i:Nat) {v:List DC},Chg (B0 x i) v->j_ x (F1 x i v)
 |[],_,_,_=>trivial
 |_::r,0,_,h=>⟨h,j_.refl r⟩
 |_::r,n+1,v,h=>⟨Chg.refl _,j_.put r n h⟩
theorem j_.app:∀(x:List (List DC)) (g:List DV),j_ x (x++[Go.Ag.news g])
 |[],g=>⟨Chg.news [] g,trivial⟩
 |b::r,g=>⟨Chg.refl b,j_.app r g⟩
theorem Chg.rem:∀ {x y:List DC},Chg (Go.Ag.clean x) y->Chg x (QP x y)
 |x,[],_=>by cases x<;>trivial
 |[],_::_,h=>h
 | b :: a,c::r,h=>by
   refine⟨?_,Chg.rem h.2⟩;rcases h.1 with h1|h1
   ·left;simp[h1]
   subst h1;cases g:b.d with
   |true=>left;rfl
   |false=>right;obtain⟨d,v⟩:=b;simp only at g;subst g;rfl
theorem j_.rem:∀ {x y:List (List DC)},j_ (Qv x) y->j_ x (TL x y)
 |x,[],_=>by cases x<;>trivial
 |[],_::_,h=>h
 |b::a,c::r,h=>⟨h.1.rem,j_.rem h.2⟩
theorem d9.rem{x y:DS}(h:d9 x.clean y):d9 x (M4 x y):=⟨h.sl.rem,h.bx.rem,h.hp.rem⟩
theorem d9.put(d:DS)(n:Option Nat)(v:DV):d9 d (d.put n v):=by
 cases n with
 |none=>exact d9.refl d
 | some n=>
   simp only[DS.put];split
   ·exact⟨(Chg.put _ _ _).trans (Chg.clr _ _),j_.refl _,j_.refl _⟩
   exact⟨Chg.put _ _ _,j_.refl _,j_.refl _⟩
theorem d9.f'(x:T_)(d:DS):d9 d (Bv x d).2:=by
 cases x with
 |c v=>exact d9.refl d
 | t n=>
   simp only[Bv,TH];split
   ·split
    ·exact d9.refl d
    exact⟨(Chg.put _ _ _).trans (Chg.clr _ _),j_.refl _,j_.refl _⟩
   exact d9.refl d
theorem d9.fzOut(x:T_)(d:DS):d9 d (Fm x d).2:=by
 cases x with
 |c v=>exact d9.refl d
 | t n=>
   simp only[Fm,TK];split
   ·split
    ·exact⟨(Chg.put _ _ _).trans (Chg.clr _ _),j_.refl _,j_.refl _⟩
    exact d9.refl d
   exact d9.refl d
theorem d9.y_(d:DS)(v:DV):∀(hd:Hd) (p:List Nat),d9 d (HP d v hd p)
 |.s t,p=>⟨(Chg.put _ _ _).trans (Chg.clr _ _),j_.refl _,j_.refl _⟩
 |.b i,[c]=>⟨Chg.clr _ _,j_.put _ _ (Chg.put _ _ _),j_.refl _⟩
 |.h i,[c]=>⟨Chg.clr _ _,j_.refl _,j_.put _ _ (Chg.put _ _ _)⟩
 |.b i,[]=>d9.refl d
 |.b i,_::_::_=>d9.refl d
 |.h i,[]=>d9.refl d
 |.h i,_::_::_=>d9.refl d
 |.x i,_=>d9.refl d
theorem ax:∀(g:List (Nat×Nat×T_)) {cs cs':List DV} {d b:DS},JN cs g d=some (cs',b)->d9 d b
 | [],cs,cs',d,b,h=>by
   simp only[JN,Ao,An]at h;obtain⟨_,rfl⟩:=h;exact d9.refl d
 | (off,size,x)::r,cs,cs',d,b,h=>by
   unfold JN at h;split at h
   ·exact(d9.f' x d).trans (ax r h)
   cases h
theorem aQ{w:Nat}{y:T_}{d g:DS}{b:DSrc}(h:J3 w y d=some (b,g)):d9 d g:=by
 unfold J3 at h;split at h<;>(try split at h)<;>first|(cases h;done)|(simp only[Ao,An]at h;obtain⟨_,rfl⟩:=h;first|exact d9.refl _|exact d9.f' y d)
theorem mr{w:Nat}{x:T_}{b:DSrc}{d i:DS}{g:PX}{v:DV}(h:M7 w x b d=some (g,v,i)):d9 d i:=by
 unfold M7 at h;split at h
 ·cases h
 repeat' split at h
 all_goals first|(cases h;done)|(simp only[Ao,An]at h;obtain⟨_,_,rfl⟩:=h;first|exact d9.f' x d|exact d9.y_ _ _ _ _)
theorem ZT{m:Bool}{i:Nat}{n:Option Nat}{a:DV}{d b:DS}{g:PX}{v:DV}(h:MH m i n a d=some (g,v,b)):d9 d b:=by
 unfold MH at h;split at h
 ·cases m with
  | true=>
    simp only[AS]at h;split at h
    ·simp only[B9,An]at h;obtain⟨_,_,_,_,rfl⟩:=h;exact⟨Chg.clr _ _,j_.put _ _ (Chg.d_ _ _ _),j_.refl _⟩
    cases h
  | false=>
    simp only[AY,A3]at h;split at h
    ·simp only[B9,An]at h;obtain⟨_,_,_,_,rfl⟩:=h;exact d9.refl _
    cases h
 cases h
theorem Z6{m:Bool}{n:Option Nat}{a:DV}{d b:DS}{g:PX}{v:DV}(h:LA m n a d=some (g,v,b)):d9 d b:=by
 unfold LA at h;split at h
 ·cases m with
  | true=>
    simp only[AS]at h;split at h
    ·simp only[B9,An]at h;obtain⟨_,_,_,_,rfl⟩:=h;exact⟨Chg.clr _ _,j_.refl _,j_.put _ _ (Chg.d_ _ _ _)⟩
    cases h
  | false=>
    simp only[AY,A3]at h;split at h
    ·simp only[B9,An]at h;obtain⟨_,_,_,_,rfl⟩:=h;exact d9.refl _
    cases h
 ·split at h
  ·split at h
   ·simp only[B9,An]at h;obtain⟨_,_,_,_,rfl⟩:=h;exact d9.refl _
   cases h
  cases h
 cases h
theorem Zb7{i n:Nat}{a x:T_}{d b:DS}{g:PX}{v:DV}(h:SE i n a x d=some (g,v,b)):d9 d b:=by
 unfold SE at h;simp only at h;split at h
 ·split at h
  ·simp only[Ao,An]at h;obtain⟨_,_,rfl⟩:=h;refine(d9.f' x d).trans ⟨?_,j_.put _ _ (Chg.d_ _ _ _),j_.refl _⟩;split
   ·exact Chg.clr _ _
   exact Chg.refl _
  cases h
 cases h
theorem ZbW{n:Nat}{a x:T_}{d b:DS}{g:PX}{v:DV}(h:SP n a x d=some (g,v,b)):d9 d b:=by
 unfold SP at h;simp only at h;split at h
 ·split at h
  ·simp only[Ao,An]at h;obtain⟨_,_,rfl⟩:=h;refine(d9.f' x d).trans ⟨?_,j_.refl _,j_.put _ _ (Chg.d_ _ _ _)⟩;dsimp only;split
   ·exact Chg.clr _ _
   exact Chg.refl _
  cases h
 ·split at h
  ·split at h
   ·split at h
    ·simp only[Ao,An]at h;obtain⟨_,_,rfl⟩:=h;exact(d9.f' x d).trans (d9.y_ _ _ _ _)
    cases h
   cases h
  cases h
 cases h
theorem j9{m:Bool}{n:Option Nat}{a:DV}{d b:DS}{r:Ec}{g:PX}{v:DV}(h:Of m n a d=some r)(i:r=some (g,v,b)):d9 d b:=by cases h
theorem Zcd{n:Nat}{hd:Hd}{p k j o:Nat}{w:DV}{d b:DS}{g:PX}{v:DV}(h:bW n hd p k j o w d=some (g,v,b)):d9 d b:=by cases h
theorem ZiA(x:T_)(d:DS):(Lu x d).2=d:=by cases x<;>rfl
theorem ZeG{w:Nat}{b:DSrc}{d i:DS}{g:PX}{v:DV}(h:MR w b d=some (g,v,i)):i=d:=by
 unfold MR at h;split at h<;>(simp only[Ao,An]at h;exact h.2.2.symm)
theorem ZeS{w:Nat}{x:T_}{b:DSrc}{d i:DS}{g:PX}{v:DV}(h:Tc w x b d=some (g,v,i)):d9 d i:=by
 unfold Tc at h;split at h
 ·cases h
 repeat' split at h
 all_goals first|(cases h;done)|(have:=ZeG h;subst this;exact d9.f' x d)|(simp only[Ao,An]at h;obtain⟨_,_,rfl⟩:=h;first|exact d9.f' x d|exact d9.y_ _ _ _ _)
theorem Wz{m:Bool}{o:o_}{ty:Option RT}{d j:DS}{g:PX}{v:DV}(h:Bz m o ty d=some (g,v,j)):d9 d j:=by
 have b:(QD o (λx=>x.dev d.sl)).map (λr=>(r.1,r.2,d))=some (g,v,j)->d9 d j:=λh=>by
  simp only[B9,An]at h;obtain⟨_,_,_,_,rfl⟩:=h;exact d9.refl _
 cases o<;>first|exact b h|skip
 case mv x=>
  cases m with
  | true=>
    simp only[Bz,AS]at h;split at h
    ·simp only[Ao,An]at h;obtain⟨_,_,rfl⟩:=h;rw[ZiA];exact d9.refl d
    cases h
  | false=>
    simp only[Bz,AY,A3]at h;split at h
    ·simp only[Ao,An]at h;obtain⟨_,_,rfl⟩:=h;exact d9.f' x d
    cases h
 case d7 i n a=>exact ZT h
 case i5 n a=>
  simp only[Bz]at h;split at h
  ·rename_i h1;exact j9 h1 h
  exact Z6 h
 case loadX i c n a=>
  simp only[Bz]at h;split at h
  ·split at h
   ·rename_i h1;exact j9 h1 h
   cases h
  cases h
 case V_ i n a x=>exact Zb7 h
 case f8 n a x=>
  simp only[Bz]at h;split at h
  ·split at h
   ·exact Zcd h
   exact ZbW h
  cases h
 case app w x y=>
  simp only[Bz]at h;split at h
  ·rename_i h1;exact(aQ h1).trans (mr h)
  cases h
 case appN w x y=>
  simp only[Bz]at h;split at h
  ·split at h
   ·rename_i h1;exact(aQ h1).trans (mr h)
   cases h
  cases h
 case e_ i zs=>
  simp only[Bz]at h;split at h
  ·simp only[Ao,An]at h;obtain⟨_,_,rfl⟩:=h;exact⟨(Chg.r_ _ _).trans (Chg.clr _ _),j_.put _ _ (Chg.news _ _),j_.refl _⟩
  cases h
 case boxB i n x=>
  simp only[Bz]at h;split at h
  ·simp only[Ao,An]at h;obtain⟨_,_,rfl⟩:=h;exact(d9.f' x d).trans ⟨(Chg.r_ _ _).trans (Chg.clr _ _),j_.put _ _ (Chg.news _ _),j_.refl _⟩
  cases h
 case allocH zs=>
  simp only[Bz]at h;split at h
  ·simp only[Ao,An]at h;obtain⟨_,_,rfl⟩:=h;exact⟨Chg.clr _ _,j_.refl _,j_.app _ _⟩
  cases h
 case boxH n x=>
  simp only[Bz]at h;split at h
  ·simp only[Ao,An]at h;obtain⟨_,_,rfl⟩:=h;exact(d9.f' x d).trans ⟨Chg.clr _ _,j_.refl _,j_.app _ _⟩
  cases h
 case build zs ps=>
  simp only[Bz]at h;split at h
  ·split at h
   ·rename_i q;simp only[Ao,An]at h;obtain⟨_,_,rfl⟩:=h;exact ax ps q
   cases h
  cases h
 case mkSlice w z len=>
  simp only[Bz]at h;repeat' split at h
  all_goals first|(cases h;done)|(simp only[Ao,An]at h;obtain⟨_,_,rfl⟩:=h;exact d9.refl _)
 case d5 w n zs ps=>
  simp only[Bz]at h;split at h
  ·simp only[Ao,An]at h;obtain⟨_,_,rfl⟩:=h;exact d9.refl _
  split at h
  ·split at h
   ·rename_i q;have:=ax ps q;repeat' split at h
    all_goals first|(cases h;done)|(simp only[Ao,An]at h;obtain⟨_,_,rfl⟩:=h;exact this)
   cases h
  cases h
 case extract x i=>
  simp only[Bz]at h;repeat' split at h
  all_goals first|(cases h;done)|(simp only[Ao,An]at h;obtain⟨_,_,rfl⟩:=h;first|exact d9.refl _|exact⟨(Chg.put _ _ _).trans (Chg.clr _ _),j_.refl _,j_.refl _⟩)
theorem Zc4{ws:List (Nat×Nat)}{m:Bool}{o:o_}{ty:Option RT}{d b:DS}{g:PX}{v:DV}(h:Ol ws m o ty d=some (g,v,b)):d9 d b:=by
 have i:(match Bz m o ty d with|some (g,v,st)=>(match OQ ws v with|some v=>some (g,v,st)|none=>none)|none=>none)=some (g,v,b)->d9 d b:=by
  intro h;cases h1:Bz m o ty d with
  |none=>rw[h1]at h;cases h
  | some r=>
    obtain⟨q,n,d1⟩:=r;rw[h1]at h;simp only at h;cases j:OQ ws n with
    |none=>rw[j]at h;cases h
    | some v2=>
      rw[j]at h;simp only[Ao,An]at h;obtain⟨_,_,rfl⟩:=h;exact Wz h1
 cases o<;>first|exact i h|skip
 case app w x y=>
  simp only[Ol]at h;split at h
  ·split at h
   ·split at h
    ·rename_i h1;exact(aQ h1).trans (ZeS h)
    cases h
   cases h
  cases h
theorem CL{α:Type}(x y:α):Y_ true x y=x:=by simp only[dJ,Hv,Hz]
theorem CH{α:Type}(x y:α):Y_ false x y=y:=by simp only[dJ,Hv,Hz]
theorem oK(c:Bool)(x y:BX):(Ym c x y).b=bif c then x.b else y.b:=by
 cases x<;>cases y<;>rename_i x y<;>cases c<;>cases x<;>cases y<;>simp[Ym,BX.b,Qt,o9,de,dJ]
theorem Om{q q':Ql}(h:D5 q q'=true):q=q':=of_decide_eq_true h
mutual
theorem XB(c:Bool):∀(x y:DV),DB c x y= .any\/(DB c x y).enc=(bif c then x.enc else y.enc)
 | .undef,y=>by
   cases y<;>first|exact .inl rfl|skip
   case undef=>cases c<;>exact .inr rfl
 | .bool a,y=>by
   cases y<;>first|exact .inl rfl|skip
   case bool b=>right;simp only[DB,DV.enc,oK];cases c<;>rfl
 | .int k a,y=>by
   cases y<;>first|exact .inl rfl|skip
   case int k' b=>
    simp only[DB];split
    ·rename_i n;have:=Xn n;subst this;right;cases c<;>simp only[DV.enc,CL,CH,Hv,Hz]
    exact .inl rfl
 | .str a,y=>by
   cases y<;>first|exact .inl rfl|skip
   case str b=>right;cases c<;>simp only[DB,DV.enc,CL,CH,Hv,Hz]
 | .ifc a,y=>by
   cases y<;>first|exact .inl rfl|skip
   case ifc b=>right;cases c<;>simp only[DB,DV.enc,CL,CH,Hv,Hz]
 | .nil q,y=>by
   cases y<;>first|exact .inl rfl|skip
   case nil q'=>
    simp only[DB];split
    ·rename_i g;have:=Om g;subst this;right;cases c<;>rfl
    exact .inl rfl
   case sl q' r l=>
    simp only[DB];split
    ·rename_i g;have:=Om g;subst this;right;cases c<;>simp only[DV.enc,CL,CH,Hv,Hz,MM]
    exact .inl rfl
 | .sl q r l,y=>by
   cases y<;>first|exact .inl rfl|skip
   case nil q'=>
    simp only[DB];split
    ·rename_i g;have:=Om g;subst this;right;cases c<;>simp only[DV.enc,CL,CH,Hv,Hz,MM]
    exact .inl rfl
   case sl q' r' l'=>
    simp only[DB];split
    ·rename_i g;have:=Om g;subst this;split
     ·rename_i s j;right;cases c<;>simp only[DV.enc,CL,CH,Hv,Hz,(NT j).2]
     exact .inl rfl
    exact .inl rfl
 | .box i o,y=>by
   cases y<;>first|exact .inl rfl|skip
   case box i' o'=>
    simp only[DB];split
    ·rename_i h;simp only[Ai,A7]at h;obtain⟨rfl,rfl⟩:=h;right;cases c<;>rfl
    exact .inl rfl
 | .ptr i o,y=>by
   cases y<;>first|exact .inl rfl|skip
   case ptr i' o'=>
    simp only[DB];split
    ·rename_i h;simp only[Ai,A7]at h;obtain⟨rfl,rfl⟩:=h;right;cases c<;>rfl
    exact .inl rfl
 | .agg a,y=>by
   cases y<;>first|exact .inl rfl|skip
   case agg b=>
    simp only[DB];split
    ·rename_i h;simp only[Ai,A7]at h;right;have:=ca c a b h.1 h.2;cases c<;>simp only[DV.enc,this,Hv,Hz]
    exact .inl rfl
 | .f7 a,y=>by
   cases y<;>first|exact .inl rfl|skip
   case f7 b=>
    simp only[DB];split
    ·rename_i h;simp only[Ai,A7]at h;right;have:=ca c a b h.1 h.2;cases c<;>simp only[DV.enc,this,Hv,Hz]
    exact .inl rfl
 |.any,y=>by cases y<;>exact .inl rfl
 |.ep _ _ _ _ _,y=>by cases y<;>exact .inl rfl
theorem ca(c:Bool):∀(x y:List DV),x.length=y.length->DV.okL (LJ c x y)=true->DV.d6 (LJ c x y)=(bif c then DV.d6 x else DV.d6 y)
 |[],[],_,_=>by cases c<;>rfl
 |[],_::_,h,_=>by cases h
 |_::_,[],h,_=>by cases h
 | x :: a,y::b,h,hk=>by
   simp only[LJ,DV.okL,Ai]at hk;have h1:=ca c a b (by simpa using h) hk.2;rcases XB c x y with g|g
   ·rw[g]at hk;cases hk.1
   simp only[LJ,DV.d6,h1,g];cases c<;>rfl
end
theorem ZgR{c:Bool}{x y:DV}{p:PV}(h:EV (bif c then x else y) p):EV (DB c x y) p:=by
 rcases XB c x y with h1|h1
 ·exact .inl h1
 cases c with
 | true=>
   rcases h with h|h
   ·simp only[Hv]at h;subst h;exact .inl (by cases y<;>rfl)
   exact .inr (by rw[h1];exact h)
 | false=>
   rcases h with h|h
   ·simp only[Hz]at h;subst h;exact .inl (by cases x<;>rfl)
   exact .inr (by rw[h1];exact h)
theorem bS{c:Bool}:∀ {b x y:List DC} {p:List PV},Chg b x->Chg b y->x.length=y.length->EL (bif c then x else y) p->EL (Tz c x y) p
 |_,[],[],p,_,_,_,h=>by cases c<;>exact h
 |_,[],_::_,_,_,_,h,_=>by cases h
 |_,_::_,[],_,_,_,h,_=>by cases h
 |b,x::a,y::e,[],_,_,_,h=>by cases c<;>exact h.elim
 | b,x::a,y::e,q::p,h1,h2,hl,h=>by
   have u:∃n,Chg n a/\Chg n e/\((x.d=true\/y.d=true)\/x=y):=by
    cases b with
    |nil=>exact⟨[],h1.2,h2.2,.inl (.inl h1.1)⟩
    | cons b0 b=>
      refine⟨b,h1.2,h2.2,?_⟩;rcases h1.1 with j|j
      ·exact .inl (.inl j)
      rcases h2.1 with i|i
      ·exact .inl (.inr i)
      exact .inr (j.trans i.symm)
   obtain⟨n,A,z,g⟩:=u;have t:=bS (c:=c) (p:=p) A z (by simpa using hl) (by cases c<;>exact h.2);refine⟨?_,t⟩;have s:EV (bif c then x.v else y.v) q:=(by cases c<;>exact h.1);unfold Yq;split
   ·exact ZgR s
   rename_i hd;rcases g with g|g
   ·exfalso;apply hd;rcases g with g|g<;>simp[g]
   subst g;cases c<;>exact s
theorem cr{c:Bool}:∀ {b x y:List (List DC)} {p:List (List PV)},j_ b x->j_ b y->x.length=y.length->EB (bif c then x else y) p->EB (Tq c x y) p
 |_,[],[],p,_,_,_,h=>by cases c<;>exact h
 |_,[],_::_,_,_,_,h,_=>by cases h
 |_,_::_,[],_,_,_,h,_=>by cases h
 |b,x::a,y::e,[],_,_,_,h=>by cases c<;>exact h.elim
 | b,x::a,y::e,q::p,h1,h2,hl,h=>by
   have t:∃j n,Chg j x/\Chg j y/\j_ n a/\j_ n e:=by
    cases b with
    |nil=>exact⟨[],[],h1.1,h2.1,h1.2,h2.2⟩
    |cons j b=>exact⟨j,b,h1.1,h2.1,h1.2,h2.2⟩
   obtain⟨j,n,C,A,z,u⟩:=t;have s:=cr (c:=c) (p:=p) z u (by simpa using hl) (by cases c<;>exact h.2);refine⟨?_,s⟩;have i:EBx (bif c then x else y) q:=(by cases c<;>exact h.1);split
   ·rename_i g;have g:x.length=y.length:=(by simpa using g);rcases i with i|i
    ·cases c
     ·simp only[Hz]at i;subst i;have:x=[]:=Df g;subst this;exact .inl rfl
     simp only[Hv]at i;subst i;have:y=[]:=Df g.symm;subst this;exact .inl rfl
    exact .inr (bS C A g i)
   exact .inl rfl
theorem Zil{c:Bool}{b x y z:DS}{s:PS}(j:d9 b x)(i:d9 b y)(h:OB c x y=some z)(hs:ES (bif c then x else y) s):ES z s:=by
 unfold OB at h;split at h
 ·rename_i g;simp only[Ai,A7]at g;simp only[Ao]at h;subst h;exact⟨bS j.sl i.sl g.1.1 (by cases c<;>exact hs.sl),cr j.bx i.bx g.1.2 (by cases c<;>exact hs.bx),cr j.hp i.hp g.2 (by cases c<;>exact hs.hp)⟩
 cases h
theorem Sb{c:Bool}:∀ {b x y:List DC},Chg b x->Chg b y->Chg b (Tz c x y)
 |b,[],_,_,_=>by cases b<;>trivial
 |b,_::_,[],_,_=>by cases b<;>trivial
 |[],x::a,y::e,h,h'=>⟨by simp[Yq,h.1],Sb h.2 h'.2⟩
 | b::_,x::a,y::e,h,h'=>by
   refine⟨?_,Sb h.2 h'.2⟩;unfold Yq;split
   ·exact .inl rfl
   exact h.1
theorem Wu{c:Bool}:∀ {b x y:List (List DC)},j_ b x->j_ b y->j_ b (Tq c x y)
 |b,[],_,_,_=>by cases b<;>trivial
 |b,_::_,[],_,_=>by cases b<;>trivial
 | [],x::a,y::e,h,h'=>by
   refine⟨?_,Wu h.2 h'.2⟩;split
   ·exact Sb h.1 h'.1
   trivial
 | b::_,x::a,y::e,h,h'=>by
   refine⟨?_,Wu h.2 h'.2⟩;split
   ·exact Sb h.1 h'.1
   cases b<;>trivial
theorem Zgf{c:Bool}{b x y z:DS}(i:d9 b x)(g:d9 b y)(h:OB c x y=some z):d9 b z:=by
 unfold OB at h;split at h
 ·simp only[Ao]at h;subst h;exact⟨Sb i.sl g.sl,Wu i.bx g.bx,Wu i.hp g.hp⟩
 cases h
theorem PX.m_:∀(a b:PX),(a.land b).den↔a.den/\b.den
 |.tt,b=>by simp[PX.land,PX.den]
 |.ff,b=>by simp[PX.land,PX.den]
 |.p h,b=>by cases b<;>simp[PX.land,PX.den]
 |.and x y,b=>by cases b<;>simp[PX.land,PX.den]
 |.ite c x y,b=>by cases b<;>simp[PX.land,PX.den]
theorem PX.if_den(c:Bool)(a b:PX):(PX.if' c a b).den↔(c=true->a.den)/\(c=false->b.den):=by
 cases a<;>cases b<;>simp[PX.if',PX.den]
def AExit.isN:AExit->Bool
 |.normal=>true|_=>false
def DT.lf:DT->Option (AExit×DS)
 |.leaf e st=>some (e,st)|.node c a b=>(match c with|true=>a.lf|false=>b.lf)
 |.chk _ t=>t.lf|.bad=>none
def DT.All(P:DS->Prop):DT->Prop
 |.leaf _ st=>P st|.node _ a b=>a.All P/\b.All P|.chk _ t=>t.All P|.bad=>True
theorem DT.All.imp{P Q:DS->Prop}(h:∀st,P st->Q st):∀ {t:DT},t.All P->t.All Q
 |.leaf _ _,a=>h _ a
 |.node _ _ _,a=>⟨DT.All.imp h a.1,DT.All.imp h a.2⟩
 |.chk _ t,a=>DT.All.imp h (t:=t) a
 |.bad,_=>trivial
theorem DT.ok_lf:∀ {t:DT},t.ok.den->∃e st,t.lf=some (e,st)
 |.leaf e st,_=>⟨e,st,rfl⟩
 | .node c a b,h=>by
   have h:=(PX.if_den c a.ok b.ok).mp h;cases c
   ·exact DT.ok_lf (t:=b) (h.2 rfl)
   exact DT.ok_lf (t:=a) (h.1 rfl)
 |.chk g t,h=>DT.ok_lf (t:=t) ((PX.m_ g t.ok).mp h).2
 |.bad,h=>h.elim
theorem DT.All.lf{P:DS->Prop}:∀ {t:DT} {e:AExit} {st:DS},t.All P->t.lf=some (e,st)->P st
 |.leaf e st,_,_,h,hl=>by simp only[DT.lf,Ao,An]at hl;obtain⟨_,rfl⟩:=hl;exact h
 | .node c a b,_,_,h,hl=>by
   cases c
   ·exact DT.All.lf (t:=b) h.2 hl
   exact DT.All.lf (t:=a) h.1 hl
 |.chk g t,_,_,h,hl=>DT.All.lf (t:=t) h hl
 |.bad,_,_,_,hl=>by cases hl
theorem DT.norm_chg{b:DS}:∀ {t:DT} {m:DS},t.All (d9 b)->t.norm= .some m->d9 b m
 | .leaf e st,m,h,hn=>by
   cases e<;>simp only[DT.norm,reduceCtorEq,NS.some.injEq]at hn;subst hn;exact h
 | .node c x y,m,h,hn=>by
   simp only[DT.norm]at hn;cases h1:x.norm with
   |none=>rw[h1]at hn;exact DT.norm_chg h.2 hn
   | fail=>
     rw[h1]at hn;cases i:y.norm<;>rw[i]at hn<;>cases hn
   | some a=>
     rw[h1]at hn;cases i:y.norm with
     |none=>rw[i]at hn;exact DT.norm_chg h.1 (h1.trans hn)
     |fail=>rw[i]at hn;cases hn
     | some e=>
       rw[i]at hn;simp only at hn;cases j:OB c a e with
       |none=>rw[j]at hn;cases hn
       | some z=>
         rw[j]at hn;simp only[NS.some.injEq]at hn;subst hn;exact Zgf (DT.norm_chg h.1 h1) (DT.norm_chg h.2 i) j
 |.chk g t,m,h,hn=>DT.norm_chg (t:=t) h hn
 |.bad,m,h,hn=>by cases hn
theorem DT.norm_none:∀ {t:DT} {e:AExit} {st:DS},t.norm= .none->t.lf=some (e,st)->e.isN=false
 | .leaf e st,_,_,hn,hl=>by
   simp only[DT.lf,Ao,An]at hl;obtain⟨rfl,_⟩:=hl;cases e<;>first|rfl|cases hn
 | .node c x y,e,st,hn,hl=>by
   simp only[DT.norm]at hn;have b:x.norm= .none/\y.norm= .none:=by
    cases h1:x.norm<;>rw[h1]at hn<;>cases i:y.norm<;>rw[i]at hn<;>first|exact⟨rfl,rfl⟩|(cases hn;done)|(simp only at hn;split at hn<;>cases hn)
   cases c
   ·exact DT.norm_none b.2 hl
   exact DT.norm_none b.1 hl
 |.chk g t,_,_,hn,hl=>DT.norm_none (t:=t) hn hl
 |.bad,_,_,_,hl=>by cases hl
theorem DT.norm_s{b:DS}:∀ {t:DT} {m st:DS} {s:PS},t.All (d9 b)->t.norm= .some m->t.lf=some (.normal,st)->ES st s->ES m s
 | .leaf e st0,m,st,s,h,hn,hl,hs=>by
   simp only[DT.lf,Ao,An]at hl;obtain⟨rfl,rfl⟩:=hl;simp only[DT.norm,NS.some.injEq]at hn;subst hn;exact hs
 | .node c x y,m,st,s,h,hn,hl,hs=>by
   simp only[DT.norm]at hn;cases h1:x.norm with
   | none=>
     rw[h1]at hn;cases c with
     |true=>have:=DT.norm_none h1 hl;cases this
     |false=>exact DT.norm_s h.2 hn hl hs
   | fail=>
     rw[h1]at hn;cases i:y.norm<;>rw[i]at hn<;>cases hn
   | some a=>
     rw[h1]at hn;cases i:y.norm with
     | none=>
       rw[i]at hn;cases c with
       |true=>exact DT.norm_s h.1 (h1.trans hn) hl hs
       |false=>have:=DT.norm_none i hl;cases this
     |fail=>rw[i]at hn;cases hn
     | some e=>
       rw[i]at hn;simp only at hn;cases j:OB c a e with
       |none=>rw[j]at hn;cases hn
       | some z=>
         rw[j]at hn;simp only[NS.some.injEq]at hn;subst hn;refine Zil (DT.norm_chg h.1 h1) (DT.norm_chg h.2 i) j ?_;cases c with
         |true=>exact DT.norm_s h.1 h1 hl hs
         |false=>exact DT.norm_s h.2 i hl hs
 |.chk g t,m,st,s,h,hn,hl,hs=>DT.norm_s (t:=t) h hn hl hs
 |.bad,m,st,s,h,hn,hl,hs=>by cases hl
theorem DT.cont_s:∀ {t:DT} {b:BX} {e:AExit} {st:DS},t.cont=some b->t.lf=some (e,st)->b.b=e.isN
 | .leaf e st0,b,e',st,hc,hl=>by
   simp only[DT.lf,Ao,An]at hl;obtain⟨rfl,_⟩:=hl;cases e<;>simp only[DT.cont,Ao]at hc<;>subst hc<;>rfl
 | .node c x y,b,e,st,hc,hl=>by
   have j:∀ {t:DT},t.cont=none->t.lf=none:=by
    intro t;induction t with
    |leaf e st=>intro h;cases e<;>cases h
    | node c x y ih1 ih2=>
      intro h;simp only[DT.cont]at h;cases h1:x.cont<;>rw[h1]at h<;>cases i:y.cont<;>rw[i]at h<;>first|(cases h;done)|skip
      cases c
      ·exact ih2 i
      exact ih1 h1
    |chk g t n=>intro h;exact n h
    |bad=>intro _;rfl
   simp only[DT.cont]at hc;cases h1:x.cont with
   | none=>
     rw[h1]at hc;cases c with
     |true=>simp only[DT.lf,j h1]at hl;cases hl
     |false=>exact DT.cont_s hc hl
   | some p=>
     rw[h1]at hc;cases i:y.cont with
     | none=>
       rw[i]at hc;cases c with
       |true=>exact DT.cont_s (h1.trans hc) hl
       |false=>simp only[DT.lf,j i]at hl;cases hl
     | some q=>
       rw[i]at hc;simp only[Ao]at hc;subst hc;rw[oK];cases c with
       |true=>exact DT.cont_s h1 hl
       |false=>exact DT.cont_s i hl
 |.chk g t,b,e,st,hc,hl=>DT.cont_s (t:=t) hc hl
 |.bad,b,e,st,hc,hl=>by cases hl
theorem DT.cont_none:∀ {t:DT},t.cont=none->t.lf=none
 |.leaf e st,h=>by cases e<;>cases h
 | .node c x y,h=>by
   simp only[DT.cont]at h;cases h1:x.cont<;>rw[h1]at h<;>cases b:y.cont<;>rw[b]at h<;>first|(cases h;done)|skip
   cases c
   ·exact DT.cont_none (t:=y) b
   exact DT.cont_none (t:=x) h1
 |.chk g t,h=>DT.cont_none (t:=t) h
 |.bad,_=>rfl
theorem DT.drop_lf:∀ {t:DT} {e:AExit} {st:DS},t.lf=some (e,st)->e.isN=false->t.drop.lf=some (e,st)
 | .leaf e st0,e',st,hl,he=>by
   simp only[DT.lf,Ao,An]at hl;obtain⟨rfl,rfl⟩:=hl;cases e<;>first|rfl|cases he
 | .node c x y,e,st,hl,he=>by
   have i:∀a b:DT,(DT.nodeB c a b).lf=some (e,st)\/(match c with|true=>a.lf|false=>b.lf)≠some (e,st):=by
    intro a b;cases c with
    | true=>
      cases n:a with
      |bad=>right;simp[DT.lf]
      | _=>
        rw[<- n];by_cases h:a.lf=some (e,st)
        ·left;cases j:b<;>rw[n]at h ⊢<;>exact h
        right;exact h
    | false=>
      cases j:b with
      |bad=>right;simp[DT.lf]
      | _=>
        rw[<- j];by_cases h:b.lf=some (e,st)
        ·left;cases n:a<;>rw[j]at h ⊢<;>exact h
        right;exact h
   simp only[DT.drop];rcases i x.drop y.drop with h|h
   ·exact h
   exfalso;apply h;cases c with
   |true=>exact DT.drop_lf (t:=x) hl he
   |false=>exact DT.drop_lf (t:=y) hl he
 |.chk g t,e,st,hl,he=>DT.drop_lf (t:=t) hl he
 |.bad,e,st,hl,he=>by cases hl
theorem DT.drop_all{P:DS->Prop}:∀ {t:DT},t.All P->t.drop.All P
 |.leaf e st,h=>by cases e<;>first|trivial|exact h
 | .node c x y,h=>by
   have h1:=DT.drop_all h.1;have b:=DT.drop_all h.2;simp only[DT.drop];cases j:x.drop<;>cases i:y.drop<;>rw[j]at h1<;>rw[i]at b<;>first|trivial|exact h1|exact b|exact⟨h1,b⟩
 |.chk g t,h=>DT.drop_all (t:=t) h
 |.bad,_=>trivial
theorem DT.map_lf(f:DS->DS):∀(t:DT),(t.map f).lf=t.lf.map λx=>(x.1,f x.2)
 |.leaf _ _=>rfl
 | .node c a b=>by
   cases c
   ·exact DT.map_lf f b
   exact DT.map_lf f a
 |.chk _ t=>DT.map_lf f t
 |.bad=>rfl
theorem DT.map_ok(f:DS->DS):∀(t:DT),(t.map f).ok=t.ok
 |.leaf _ _=>rfl
 |.node c a b=>by simp only[DT.map,DT.ok,DT.map_ok f a,DT.map_ok f b]
 |.chk _ t=>by simp only[DT.map,DT.ok,DT.map_ok f t]
 |.bad=>rfl
theorem DT.map_all{P Q:DS->Prop}{f:DS->DS}(h:∀st,P st->Q (f st)):∀ {t:DT},t.All P->(t.map f).All Q
 |.leaf _ _,a=>h _ a
 |.node _ _ _,a=>⟨DT.map_all h a.1,DT.map_all h a.2⟩
 |.chk _ t,a=>DT.map_all h (t:=t) a
 |.bad,_=>trivial
theorem DT.unexit_ok(i:Nat):∀(t:DT),(t.unexit i).ok=t.ok
 | .leaf e st=>by
   cases e<;>first|rfl|skip
   simp only[DT.unexit];split<;>rfl
 |.node c a b=>by simp only[DT.unexit,DT.ok,DT.unexit_ok i a,DT.unexit_ok i b]
 |.chk _ t=>by simp only[DT.unexit,DT.ok,DT.unexit_ok i t]
 |.bad=>rfl
def AExit.un(i:Nat):AExit->AExit
 |.exit j=>if j=i then .normal else .exit j|e=>e
theorem DT.unexit_lf(i:Nat):∀(t:DT),(t.unexit i).lf=t.lf.map λx=>(x.1.un i,x.2)
 | .leaf e st=>by
   cases e<;>first|rfl|skip
   rename_i j;simp only[DT.unexit,DT.lf,Cq,AExit.un];by_cases h:j=i
   ·rw[Ac (by simpa using h),Ac h];rfl
   rw[Ae (by simpa using h),Ae h];rfl
 | .node c a b=>by
   cases c
   ·exact DT.unexit_lf i b
   exact DT.unexit_lf i a
 |.chk _ t=>DT.unexit_lf i t
 |.bad=>rfl
theorem DT.unexit_all{P:DS->Prop}(i:Nat):∀ {t:DT},t.All P->(t.unexit i).All P
 | .leaf e st,a=>by
   cases e<;>first|exact a|skip
   simp only[DT.unexit];split<;>exact a
 |.node _ _ _,a=>⟨DT.unexit_all i a.1,DT.unexit_all i a.2⟩
 |.chk _ t,a=>DT.unexit_all i (t:=t) a
 |.bad,_=>trivial
theorem DT.chk_ok(g:PX)(t:DT):(DT.chk' g t).ok.den↔g.den/\t.ok.den:=by
 cases g<;>simp only[DT.chk',DT.ok,PX.m_,PX.den,Gk]
theorem DT.chk_lf(g:PX)(t:DT):(DT.chk' g t).lf=t.lf:=by cases g<;>rfl
theorem DT.chk_all{P:DS->Prop}(g:PX){t:DT}(h:t.All P):(DT.chk' g t).All P:=by cases g<;>exact h
theorem DT.bind_s{f:DS->DT}{h:DS->DS}:∀ {t:DT} {e:AExit} {st:DS},(t.bind f h).ok.den->(t.bind f h).lf=some (e,st) ->
 t.ok.den/\((∃j,t.lf=some (.normal,j)/\(f j).ok.den/\(f j).lf=some (e,st))\/(e.isN=false/\∃j,t.lf=some (e,j)/\st=h j))
 | .leaf e0 j,e,st,n,hl=>by
   cases e0 with
   |normal=>exact⟨trivial,.inl ⟨j,rfl,n,hl⟩⟩
   | ret=>
     simp only[DT.bind,DT.lf,Ao,An]at hl;obtain⟨rfl,rfl⟩:=hl;exact⟨trivial,.inr ⟨rfl,j,rfl,rfl⟩⟩
   | exit i=>
     simp only[DT.bind,DT.lf,Ao,An]at hl;obtain⟨rfl,rfl⟩:=hl;exact⟨trivial,.inr ⟨rfl,j,rfl,rfl⟩⟩
 | .node c a b,e,st,n,hl=>by
   have n:=(PX.if_den c _ _).mp n;cases c with
   | true=>
     obtain⟨h1,q⟩:=DT.bind_s (t:=a) (n.1 rfl) hl;exact⟨(PX.if_den _ _ _).mpr ⟨λ_=>h1,λh=>by cases h⟩,q⟩
   | false=>
     obtain⟨h1,q⟩:=DT.bind_s (t:=b) (n.2 rfl) hl;exact⟨(PX.if_den _ _ _).mpr ⟨λh=>(by cases h),λ_=>h1⟩,q⟩
 | .chk g t,e,st,n,hl=>by
   have n:=(PX.m_ g _).mp n;obtain⟨h1,q⟩:=DT.bind_s (t:=t) n.2 hl;exact⟨(PX.m_ _ _).mpr ⟨n.1,h1⟩,q⟩
 |.bad,e,st,n,hl=>n.elim
theorem DT.bind_all{P Q:DS->Prop}{f:DS->DT}{h:DS->DS}(g:∀st,P st->(f st).All Q)(b:∀st,P st->Q (h st)):∀ {t:DT},t.All P->(t.bind f h).All Q
 |.leaf e st,a=>by cases e<;>first|exact g _ a|exact b _ a
 |.node _ _ _,a=>⟨DT.bind_all g b a.1,DT.bind_all g b a.2⟩
 |.chk _ t,a=>DT.bind_all g b (t:=t) a
 |.bad,_=>trivial
theorem DT.then_s{b:DS}{f:DS->DT}{h:DS->DS}{t:DT}{e:AExit}{st:DS}(F:t.All (d9 b))(q:(t.then f h).ok.den)(n:(t.then f h).lf=some (e,st)):t.ok.den/\((∃g m,t.lf=some (.normal,g)/\(∀s,ES g s->ES m s)/\d9 b m/\(f m).ok.den/\(f m).lf=some (e,st))\/(e.isN=false/\∃g,t.lf=some (e,g)/\st=h g)):=by
 have i:(t.bind f h).ok.den->(t.bind f h).lf=some (e,st)->t.ok.den/\((∃g m,t.lf=some (.normal,g)/\(∀s,ES g s->ES m s)/\d9 b m/\(f m).ok.den/\(f m).lf=some (e,st))\/(e.isN=false/\∃g,t.lf=some (e,g)/\st=h g)):=λq n=>by
  obtain⟨h1,G⟩:=DT.bind_s q n;refine⟨h1,G.imp ?_ id⟩;rintro⟨g,I,L,J⟩;exact⟨g,g,I,λ_ h=>h,F.lf I,L,J⟩
 unfold DT.then at q n;split at q
 ·rename_i D;rw[Ac D]at n;exact i q n
 rename_i D;rw[Ae D]at n;cases hm:t.norm with
 |none=>rw[hm]at q n;exact i q n
 |fail=>rw[hm]at q n;exact i q n
 | some m=>
   rw[hm]at q n;simp only[DT.chk_ok,DT.chk_lf]at q n;obtain⟨z,j⟩:=q;refine⟨z,?_⟩;obtain⟨C,g,h0⟩:=DT.ok_lf z;have y:C.isN=true->(f m).ok.den->(f m).lf=some (e,st)->((∃g m,t.lf=some (.normal,g)/\(∀s,ES g s->ES m s)/\d9 b m/\(f m).ok.den/\(f m).lf=some (e,st))\/(e.isN=false/\∃g,t.lf=some (e,g)/\st=h g)):=λu h1 G=>by
    have u:C= .normal:=(by cases C<;>first|rfl|cases u);subst u;exact .inl ⟨g,m,h0,λs hs=>DT.norm_s F hm h0 hs,DT.norm_chg F hm,h1,G⟩
   cases A:t.cont with
   |none=>rw[A]at j;exact j.elim
   | some c=>
     have x:=DT.cont_s A h0;cases c with
     | lit c=>
       cases c with
       |false=>rw[A]at j;exact j.elim
       | true=>
         rw[A]at j n;exact y x.symm j n
     | dyn c=>
       rw[A]at j n;simp only[BX.b]at x;subst x;have j:=(PX.if_den _ _ _).mp j;cases u:C.isN with
       | true=>
         rw[u]at n;exact y u (j.1 u) n
       | false=>
         rw[u]at n;simp only[DT.lf,DT.map_lf,DT.drop_lf h0 u,Cq,Ao,An]at n;obtain⟨rfl,rfl⟩:=n;exact .inr ⟨u,g,h0,rfl⟩
theorem DT.then_all{b:DS}{Q:DS->Prop}{f:DS->DT}{h:DS->DS}{t:DT}(g:t.All (d9 b))(j:∀st,d9 b st->(f st).All Q)(i:∀st,d9 b st->Q (h st)):(t.then f h).All Q:=by
 unfold DT.then;split
 ·exact DT.bind_all j i g
 cases hm:t.norm with
 |none=>exact DT.bind_all j i g
 |fail=>exact DT.bind_all j i g
 | some m=>
   have h1:=j m (DT.norm_chg g hm);refine DT.chk_all _ ?_;cases n:t.cont with
   |none=>trivial
   | some c=>
     cases c with
     |lit c=>cases c<;>first|trivial|exact h1
     |dyn c=>exact⟨h1,DT.map_all i (DT.drop_all g)⟩
end
end Go.Ag
