/- Part 4 of what FnExactTapKeys needs. No conditions. -/
import Derived.Test.YtbkpfpcnjpggaaaGreatLibC
namespace Go.Ag
set_option linter.unusedSimpArgs false
set_option linter.unusedVariables false
noncomputable section
section
variable {h0:Ac} {ω0 ω:Nat->W} {ρ ρ':Nat->Nat} {st f4 st1:PS} {us v_:St} {X X':CN}
theorem RS.fzArgs:∀(args:List T_) {ω:Nat->W} {st:PS},RS h0 ω0 ω ρ st us X0->∃ω',RS h0 ω0 ω' ρ (Ag.fzArgs args st) us X0
 |[],ω,st,R=>⟨ω,R⟩
 | x::r,ω,st,R=>by
   obtain⟨ω1,g⟩:=R.fz0 x;obtain⟨ω2,b⟩:=g.put none;exact RS.fzArgs r b
theorem RS.tup0(R:RS h0 ω0 ω ρ st us X0):RS h0 ω0 ω ρ st us (X1 (.f8 []) (.f8 [])):=by
 have e:∀p,(PV.f8 []).S_ p= .fl .undef:=by
  intro p
  match p with
  |[]=>rfl
  |[_]=>rfl
  |[i,c]=>cases c<;>rfl
  |_::_::_::_=>rfl
 exact R.handx ⟨[],rfl,rfl,λi=>by simp[Aa,Shp1]⟩ (λp=>by rw[e];exact .undef _ _) (λp i g b=>by rw[e];simp[PV.q])
theorem ny:∀l:List PV,(PV.ownrL l).length=l.length
 |[]=>rfl
 |_::r=>by simp only[PV.ownrL,A0,ny r]
theorem OA:∀l:List (List PV),(PV.ownrE l).length=l.length
 |[]=>rfl
 |_::r=>by simp only[PV.ownrE,A0,OA r]
theorem nu:∀a b:List PV,PV.ownrL (a++b)=PV.ownrL a++PV.ownrL b
 |[],_=>rfl
 |_::r,b=>by simp only[Dz,PV.ownrL,nu r b]
theorem bG:∀l:List (List PV),(PV.ownrE l).flatten=PV.ownrL l.flatten
 |[]=>rfl
 |e::r=>by simp only[PV.ownrE,Ig,bG r,nu]
theorem cn:∀(l:List PV) (k:Nat),Aa (PV.ownrL l) k=(Aa l k).ownr
 |[],_=>rfl
 |_::_,0=>rfl
 |_::r,k+1=>cn r k
theorem dE{w:Nat}:∀ {l:List (List PV)},(∀e∈l,e.length=w)->∀e∈PV.ownrE l,e.length=w
 |[],_,_,h=>by cases h
 | a::r,hw,e,h=>by
   simp only[PV.ownrE,CE]at h;rcases h with rfl|h
   ·rw[ny];exact hw a (by simp)
   exact dE (λe h=>hw e (by simp[h])) e h
theorem ZjG{H:Ac}{v:PV}{u:V}{m:Md}(r:RC H ω m v u):m= .fz->RC H ω .fz v.ownr u:=by
 induction r with
 |undef m u=>intro _;exact .undef _ _
 |v m x s=>intro _;exact .v _ _ s
 |nil m q=>intro _;exact .nil _ _
 | sl m q es l o n b hb hk hc f9 hn hw hle hr ih=>
   rintro rfl;refine .sl _ _ _ l o n b hb hk hc (λh=>by cases h) (by rw[OA];exact hn) (dE hw) (by rw[OA];exact hle) λk g=>?_;rw[OA]at g;rw[bG,cn];exact ih k g rfl
 | ep m q es j o' l o p b hb hk hq hc hw hle hr hp ih=>
   rintro rfl;exact .ep _ _ _ _ _ l o p b hb hk hq hc hw hle hr hp
 |box m i o=>intro _;exact .box _ _ _
 |ptr hd p i o l t=>intro h;cases h
theorem pD{H:Ac}{hd:Hd}{p:List Nat}{v:PV}{u:V}(r:RC H ω (.at hd p) v u):RC H ω (.at hd p) v.nrm1 u:=by
 unfold PV.nrm1;split
 ·rename_i es;cases r with
  |nil=>exact .nil _ _
  | sl _ _ _ l o n b hb hk hc f9 hn hw hle hr=>
    refine .sl _ _ _ l o n b hb hk hc (λ_ h=>by simp at h) (by rw[OA];exact hn) (dE hw) (by rw[OA];exact hle) λk g=>?_;rw[OA]at g;rw[bG,cn];exact ZjG (hr k g) rfl
 exact r
theorem nD:∀(l:List PV) (k:Nat),Aa (PV.nrmA l) k=(Aa l k).nrm1
 |[],_=>rfl
 |_::_,0=>rfl
 |_::r,k+1=>nD r k
theorem nE:∀l:List PV,(PV.nrmA l).length=l.length
 |[]=>rfl
 |_::r=>by simp only[PV.nrmA,A0,nE r]
theorem qC(v:PV):v.nrm1.q=v.q:=by
 unfold PV.nrm1;split<;>rfl
theorem Xx(v:PV)(p:List Nat):v.nrm.S_ p=(v.S_ p).nrm1\/v.nrm.S_ p=v.S_ p:=by
 cases v with
 | agg cs=>
   match p with
   |[c]=>exact .inl (nD cs c)
   |[]=>exact .inr rfl
   |_::_::_=>exact .inr rfl
 | sl q es=>
   match p with
   |[0]=>cases q<;>exact .inl rfl
   |[]=>cases q<;>exact .inr rfl
   |(_+1)::_=>cases q<;>exact .inr rfl
   |0::_::_=>cases q<;>exact .inr rfl
 |_=>exact .inr rfl
theorem pO{v:PV}{u:V}(hs:A9 v u):A9 v.nrm u:=by
 cases v with
 |agg cs=>obtain⟨ws,h1,b⟩:=hs;exact⟨ws,h1,by rw[nE];exact b⟩
 |f8 g=>exact hs
 |sl q es=>cases q<;>exact hs
 |_=>exact hs
theorem Ym:∀(l:List PV) (t:Nat),Aa (l.map PV.nrm) t=(Aa l t).nrm
 |[],_=>rfl
 |_::_,0=>rfl
 |_::r,t+1=>Ym r t
theorem RS.nmS{X:CN}(R:RS h0 ω0 ω ρ st us X):RS h0 ω0 ω ρ { st with sl:=st.sl.map PV.nrm } us X:=by
 have:=RS.ren (f4:={ st with sl:=st.sl.map PV.nrm }) (v_:=us) (X':=X) R Ren.id_ok (λhd p i q e=>by simp[Ren.id]at e;exact e.1) (λf_ p=>?_) rfl (λt=>by rw[Ym];exact pO (R.sh t)) R.shx (by rw[Bh];exact R.lsl) R.lbx R.lb R.cb R.ch rfl (λ_=>rfl)
 ·rwa [DF]at this
 cases f_ with
 |x i=>exact .inl (Bv rfl)
 | s t=>
   refine .inr ?_;rw[DF];refine⟨λi j g=>?_,?_⟩
   ·show ((Aa (st.sl.map PV.nrm) t).S_ p).q≠_;rw[Ym];rcases Xx (Aa st.sl t) p with e|e
    ·rw[e,qC];exact R.nx (.s t) p i j g
    rw[e];exact R.nx (.s t) p i j g
   show RC us.hp ω (.at (.s t) p) ((Aa (st.sl.map PV.nrm) t).S_ p) ((get us.sl t).S_ p);rw[Ym];rcases Xx (Aa st.sl t) p with e|e
   ·rw[e];exact pD (R.core.rc (.s t) p)
   rw[e];exact R.core.rc (.s t) p
 |b t=>exact .inl (Bv rfl)
 |h t=>exact .inl (Bv rfl)
theorem RS.nm{v:PV}{u:V}(R:RS h0 ω0 ω ρ st us (X1 v u)):RS h0 ω0 ω ρ st us (X1 v.nrm u):=by
 have hs:A9 v u:=R.shx 0;have z:∀p,RC us.hp ω (.at (.x 0) p) (v.S_ p) (u.S_ p):=λp=>R.core.rc (.x 0) p;have y:∀p i j g,(v.S_ p).q≠some (.i6 (.x i) j g):=λp i j g=>R.nx (.x 0) p i j g;have n:A9 v.nrm u:=pO hs;have:=RS.ren (f4:=st) (v_:=us) (X':=X1 v.nrm u) R Ren.id_ok (λhd p i q e=>by simp[Ren.id]at e;exact e.1) (λf_ p=>?_) rfl R.sh (λi=>?_) R.lsl R.lbx R.lb R.cb R.ch rfl (λ_=>rfl)
 ·rwa [DF]at this
 ·cases f_ with
  | x i =>
    by_cases hi:i=0
    ·subst hi;refine .inr ?_;rw[DF];refine⟨λi j g=>?_,?_⟩
     ·show (v.nrm.S_ p).q≠_;rcases Xx v p with e|e
      ·rw[e,qC];exact y p i j g
      rw[e];exact y p i j g
     show RC us.hp ω (.at (.x 0) p) (v.nrm.S_ p) (u.S_ p);rcases Xx v p with e|e
     ·rw[e];exact pD (z p)
     rw[e];exact z p
    exact .inl (Bv (by simp[Ak,X1,hi]))
  |s t=>exact .inl (Bv rfl)
  |b t=>exact .inl (Bv rfl)
  |h t=>exact .inl (Bv rfl)
 by_cases hi:i=0
 ·subst hi;exact n
 rw[D6 _ _ i hi];exact Bf _
theorem ZdW{f:Bg}{p:Dl}(hs:Kf f p)(R:RS h0 ω0 ω ρ st us X0){args:List T_}{d:Option Nat}{k:PS->Prop}{K:St->Prop}(A:∀st us ω ρ,RS h0 ω0 ω ρ st us X0->k st->K us)(e:Uy p args d k st):(args.map (·.ev us.sl)).all V.ok1=true/\f (args.map (·.ev us.sl)) us.hp λr h=>K (St.put { us with hp:=h } d r):=by
 obtain⟨t,e⟩:=e;refine⟨TE R t,?_⟩;split at e
 ·obtain⟨F,e⟩:=e;refine hs us.hp _ ρ _ _ st.hp _ _ (R.enterP t F).nmS (λl hd p e=>?_) e λu h' r G ω' ρ' n z g=>?_
  ·unfold ωp at e;split at e
   ·cases e
   ·rename_i i q _;cases e;exact⟨i,rfl⟩
   ·cases e
   cases e
  obtain⟨D,b,j⟩:=n;obtain⟨ω'',ρ'',y⟩:=R.leaveP z g b D;obtain⟨ω3,x⟩:=y.put d;exact A _ _ _ _ x j
 rename_i b;have b:(args.map (·.t7 st.sl)).any PV.q_=false:=by simpa using b
 have s:=R.enter t b (!((args.map (·.t7 st.sl)).all λv=>!v.hold)) (λh=>by simpa using h);refine hs us.hp _ ρ _ _ [] _ _ s.nmS (λl hd p e=>?_) e λu h' r G ω' ρ' n z g=>?_
 ·exfalso;unfold ωc at e;split at e
  ·cases e
  ·split at e<;>cases e
  cases e
 obtain⟨C,j⟩:=n;obtain⟨ω'',ρ'',y⟩:=R.leave z g (λhd=>by
  have:((args.map (·.t7 st.sl)).all λv=>!v.hold)=false:=(by simpa using hd);rw[this]at C;simpa using C)
 obtain⟨ω3,x⟩:=y.put d;exact A _ _ _ _ x j
theorem Zdc{f:Bg}{p:Dl}(hs:Kf f p)(R:RS h0 ω0 ω ρ st us X0){args:List T_}{d:Option Nat}{k:PS->Prop}{K:St->Prop}(y:∀st us ω ρ,RS h0 ω0 ω ρ st us X0->k st->K us)(e:fI p args d k st):(args.map (·.ev us.sl)).all V.ok1=true/\Rs us.bx .all f (args.map (·.ev us.sl)) us.hp λr h=>K (St.put { us with hp:=h } d r):=by
 obtain⟨b,q,e⟩:=e;refine⟨TE R q,_,?_,λr h' t=>t⟩;rw[Ae (by simp[b])]at e;have j:=R.enter q b (!((args.map (·.t7 st.sl)).all λv=>!v.hold)) (λh=>by simpa using h);refine hs us.hp _ ρ _ _ [] _ _ j.nmS (λl hd p e=>?_) e λu h' r D ω' ρ' z s g=>?_
 ·exfalso;unfold ωc at e;split at e
  ·cases e
  ·split at e<;>cases e
  cases e
 obtain⟨n,i⟩:=z;obtain⟨ω'',ρ'',C⟩:=R.leave s g (λhd=>by
  have:((args.map (·.t7 st.sl)).all λv=>!v.hold)=false:=(by simpa using hd);rw[this]at n;simpa using n)
 obtain⟨ω3,A⟩:=C.put d;refine⟨λl x=>(s.fr.old l x ?_).1,y _ _ _ _ A i⟩;unfold ωc;split
 ·exact .inl rfl
 ·split<;>simp
 exact .inr rfl
theorem Zc7{i c:Nat}{f:Bg}{p:Dl}(hs:Kf f p)(R:RS h0 ω0 ω ρ st us X0){args:List T_}{d:Option Nat}{k:PS->Prop}{K:St->Prop}(z:∀st us ω ρ,RS h0 ω0 ω ρ st us X0->k st->K us)(e:qW i c p args d k st):(args.map (·.ev us.sl)).all V.ok1=true/\Rs us.bx (.box i c) f (args.map (·.ev us.sl)) us.hp λr h=>K (St.put { us with hp:=h } d r):=by
 obtain⟨⟨hp,es,y⟩,A,e⟩:=e;refine⟨TE R A,_,?_,λr h' D=>D⟩;rw[Ad hp]at e;obtain⟨G,e⟩:=e;refine hs us.hp _ ρ _ _ st.hp _ _ (R.enterP A G).nmS (λl hd p e=>?_) e λu h' r O ω' ρ' L C g=>?_
 ·unfold ωp at e;split at e
  ·cases e
  ·rename_i i q _;cases e;exact⟨i,rfl⟩
  ·cases e
  cases e
 obtain⟨F,t,x⟩:=L;obtain⟨ω'',ρ'',N⟩:=R.leaveP C g t F;obtain⟨ω3,M⟩:=N.put d;refine⟨λl o n s J=>?_,z _ _ _ _ M x⟩;have r:=R.core.rc (.b i) [c];have j:Aa (Ao st.bx i) c= .sl .own es:=y;simp only[Ak,Be,j,s]at r;cases r with
 |sl _ _ _ _ _ _ b h1 z I=>exact(C.fr.old l J (.inr (by simp[ωp,I.1]))).1
inductive Ob where
 |c (f:Bg) (p:Dl)|m (f:Bg) (M:PMk)|t (f:Bg) (T:PTk)
def Ob.sound:Ob->Prop
 |.c f p=>Kf f p|.m f M=>JD f M|.t f T=>e8 f T
def POp.t_:POp->List Ob
 |.a _ _=>[]|.aw _ _ _=>[]|.call _ f p _=>[.c f p]|.callk _ f p _=>[.c f p]|.callv _ f p _ _ _=>[.c f p]|.mark f M _ _=>[.m f M]|.tk f T _ _=>[.t f T]|.fz _=>[]|.clm _ _ _=>[]|.fzb _ _=>[]
def O8:List POper->List Ob
 |[]=>[]|o::r=>o.op.t_++O8 r
def PCode.t_:PCode->List Ob
 |.skip=>[]|.region ops=>O8 ops|.regionU ops=>O8 ops|.seq _ a b=>a.t_++b.t_|.cond _ a b=>a.t_++b.t_|.block _ a=>a.t_|.scope a=>a.t_|.loop _ a=>a.t_|.exit _=>[]|.ret=>[]
def AllP:List Ob->Prop
 |[]=>True|o::r=>o.sound/\AllP r
theorem AllP.app:∀ {a b:List Ob},AllP (a++b)->AllP a/\AllP b
 |[],b,h=>⟨trivial,h⟩
 |_::_,b,⟨h1,h2⟩=>⟨⟨h1,(AllP.app h2).1⟩,(AllP.app h2).2⟩
theorem rn{H:Ac}{w:Nat}{v v':PV}(e:FQ w v=some v'){hd:Hd}{p:List Nat}{u:V}(r:RC H ω (.at hd p) v u):RC H ω (.at hd p) v' u:=by
 unfold FQ at e;split at e
 ·rename_i es;split at e
  ·rename_i i;cases e;cases r with
   |nil=>exact .nil _ _
   | sl _ _ _ l o n b h1 hk hc f9 hn hw' hle hr=>
     obtain⟨j,g⟩:=Ro _ (f9 rfl (.inl rfl));exact .sl _ _ _ _ _ _ b h1 hk ⟨hc.1,hc.2.1,hc.2.2,λh0=>by rw[<- hw' j g];exact(Jl w es).1 (i.resolve_left (by omega)) j g⟩ (λ_ h=>by simp at h) hn hw' hle hr
  cases e
 ·split at e
  ·rename_i w' es i;cases e;cases r with
   |nil=>exact .nil _ _
   | sl _ _ _ l o n b h1 hk hc f9 hn hw' hle hr=>
     exact .sl _ _ _ _ _ _ b h1 hk ⟨hc.1,hc.2.1,hc.2.2.1,λh0=>(hc.2.2.2 (by rcases i with h|h<;>omega)).trans (i.resolve_left (by omega))⟩ (λ_ h=>by simp at h) hn hw' hle hr
  cases e
 cases e
theorem qu{w:Nat}{v v':PV}(e:FQ w v=some v'):(∃q es,v= .sl q es)/\∃w es,v'= .sl (.i5 w) es:=by
 unfold FQ at e;split at e
 ·split at e
  ·cases e;exact⟨⟨_,_,rfl⟩,⟨_,_,rfl⟩⟩
  cases e
 ·split at e
  ·cases e;exact⟨⟨_,_,rfl⟩,⟨_,_,rfl⟩⟩
  cases e
 cases e
theorem rB{H:Ac}:∀(ws:List (Nat×Nat)) {l l':List PV},PC ws l=some l'->l'.length=l.length/\(∀hd c u,RC H ω (.at hd [c]) (Aa l c) u->RC H ω (.at hd [c]) (Aa l' c) u)/\∀c,(∀i g b,(Aa l c).q≠some (.i6 (.x i) g b))->∀i g b,(Aa l' c).q≠some (.i6 (.x i) g b)
 |[],l,l',e=>by cases e;exact⟨rfl,λ_ _ _ h=>h,λ_ h=>h⟩
 | (c0,w)::r,l,l',e=>by
   unfold PC at e;split at e
   ·rename_i v j;obtain⟨h1,t,s⟩:=rB r e;refine⟨by rw[h1,Gz],λhd c u h=>t hd c u ?_,λc h=>s c ?_⟩
    ·rw[El];split
     ·rename_i n;rw[n.1]at h;rw[n.1];exact rn j h
     exact h
    rw[El];split
    ·obtain⟨_,w,es,y⟩:=qu j;rw[y];intro i g b;simp[PV.q]
    exact h
   cases e
theorem RS.wk{v v':PV}{u:V}(R:RS h0 ω0 ω ρ st us (X1 v u)){ws:List (Nat×Nat)}(e:Ft ws v=some v'):∃ω',RS h0 ω0 ω' ρ st us (X1 v' u):=by
 have hs:A9 v u:=R.shx 0;have D:∀p,RC us.hp ω (.at (.x 0) p) (v.S_ p) (u.S_ p):=λp=>R.core.rc (.x 0) p;have F:∀p i z y,(v.S_ p).q≠some (.i6 (.x i) z y):=λp i z y=>R.nx (.x 0) p i z y;have n:A9 v' u/\(∀p,RC us.hp ω (.at (.x 0) p) (v'.S_ p) (u.S_ p))/\∀p,Cs (v'.S_ p):=by
  have g:∀ {w:Nat},FQ w v=some v'->A9 v' u/\(∀p,RC us.hp ω (.at (.x 0) p) (v'.S_ p) (u.S_ p))/\∀p,Cs (v'.S_ p):=by
   intro w e;obtain⟨⟨q,es,O⟩,U,M,N⟩:=qu e;have h0:=D [0];have C:=hs;subst O;have A:(∀us,u≠.agg us)/\∀us,u≠.f8 us:=C;have h0:RC us.hp ω (.at (.x 0) [0]) (.sl q es) (u.S_ [0]):=h0;have h1:=rn e h0;subst N;refine⟨A,λp=>?_,λp=>?_⟩
   ·match p with
    |[0]=>exact h1
    |[]=>exact .undef _ _
    |(_+1)::_=>exact .undef _ _
    |0::_::_=>exact .undef _ _
   intro i z y
   match p with
   |[0]=>simp[PV.S_,PV.q]
   |[]=>simp[PV.S_,PV.q]
   |(_+1)::_=>simp[PV.S_,PV.q]
   |0::_::_=>simp[PV.S_,PV.q]
  cases v with
  | agg cs=>
    simp only[Ft,Ch]at e;obtain⟨l',e,rfl⟩:=e;obtain⟨v_,h1,G⟩:=hs;subst h1;obtain⟨L,J,I⟩:=rB (H:=us.hp) (ω:=ω) ws e;refine⟨⟨v_,rfl,by rw[G,L]⟩,λp=>?_,λp=>?_⟩
    ·match p with
     |[c]=>exact J _ c _ (D [c])
     |[]=>exact .undef _ _
     |_::_::_=>exact .undef _ _
    match p with
    |[c]=>exact I c (F [c])
    |[]=>intro i z y;simp[PV.S_,PV.q]
    |_::_::_=>intro i z y;simp[PV.S_,PV.q]
  |f8 Y=>simp[Ft]at e
  |fl x=>simp only[Ft]at e;split at e<;>first|exact g e|cases e
  |sl q es=>simp only[Ft]at e;split at e<;>first|exact g e|cases e
  |ep q es j o=>simp only[Ft]at e;split at e<;>first|exact g e|cases e
  |box i o=>simp only[Ft]at e;split at e<;>first|exact g e|cases e
  |ptr i o=>simp only[Ft]at e;split at e<;>first|exact g e|cases e
 refine⟨ω,?_⟩;have:=RS.ren (f4:=st) (v_:=us) (X':=X1 v' u) R Ren.id_ok (λhd p i q e=>by simp[Ren.id]at e;exact e.1) (λf_ p=>?_) rfl R.sh (λi=>?_) R.lsl R.lbx R.lb R.cb R.ch rfl (λ_=>rfl)
 ·rwa [DF]at this
 ·cases f_ with
  | x i=>
    by_cases hi:i=0
    ·subst hi;refine .inr ?_;rw[DF];exact⟨n.2.2 p,n.2.1 p⟩
    exact .inl (Bv (by simp[Ak,X1,hi]))
  |s t=>exact .inl (Bv rfl)
  |b t=>exact .inl (Bv rfl)
  |h t=>exact .inl (Bv rfl)
 by_cases hi:i=0
 ·subst hi;exact n.1
 rw[D6 _ _ i hi];exact Bf _
theorem nA(R:RS h0 ω0 ω ρ st us X0){o:POp}(q:AllP o.t_){d:Option Nat}{k:PS->Prop}{K:St->Prop}(g:∀st us ω ρ,RS h0 ω0 ω ρ st us X0->k st->K us)(e:CU o d k st):AP o.er d K us:=by
 cases o with
 | a m o=>
   simp only[CU]at e;cases hs:BC m o st with
   |none=>rw[hs]at e;exact e.elim
   | some r=>
     obtain⟨v,C⟩:=r;rw[hs]at e;obtain⟨u,bx,hp,ω',ρ',h1,j⟩:=W7 R hs;obtain⟨ω2,n⟩:=j.put d;have:=g _ _ _ _ n e;simp only[POp.er];cases o<;>first|(simp only[AP,h1];exact this)|(simp[Af]at h1)
 | aw ws m o=>
   simp only[CU]at e;cases hs:BC m o st with
   |none=>rw[hs]at e;exact e.elim
   | some r=>
     obtain⟨v,C⟩:=r;rw[hs]at e;simp only at e;cases F:Ft ws v with
     |none=>rw[F]at e;exact e.elim
     | some v'=>
       rw[F]at e;obtain⟨u,bx,hp,ω',ρ',h1,j⟩:=W7 R hs;obtain⟨ω1,j⟩:=j.wk F;obtain⟨ω2,n⟩:=j.put d;have:=g _ _ _ _ n e;simp only[POp.er];cases o<;>first|(simp only[AP,h1];exact this)|(simp[Af]at h1)
 | call m f p args=>
   simp only[CU]at e;simp only[POp.er,AP];have z:∃ω',RS h0 ω0 ω' ρ (if m then Ag.fzArgs args st else st) us X0:=by
    cases m with
    |true=>exact RS.fzArgs args R
    |false=>exact⟨ω,R⟩
   obtain⟨ω1,b⟩:=z;exact ZdW q.1 b g e
 | callk m f p args=>
   simp only[CU]at e;simp only[POp.er,AP];have z:∃ω',RS h0 ω0 ω' ρ (if m then Ag.fzArgs args st else st) us X0:=by
    cases m with
    |true=>exact RS.fzArgs args R
    |false=>exact⟨ω,R⟩
   obtain⟨ω1,b⟩:=z;exact Zdc q.1 b g e
 | callv m f p args i c=>
   simp only[CU]at e;simp only[POp.er,AP];have z:∃ω',RS h0 ω0 ω' ρ (if m then Ag.fzArgs args st else st) us X0:=by
    cases m with
    |true=>exact RS.fzArgs args R
    |false=>exact⟨ω,R⟩
   obtain⟨ω1,b⟩:=z;exact Zc7 q.1 b g e
 | mark f M x y=>
   simp only[CU]at e;simp only[POp.er,AP];exact Zdt q.1 R g e
 | tk f T x y=>
   simp only[CU]at e;simp only[POp.er,AP];refine Zfl q.1 R g (λI G=>?_) e;have A:=(R.enter (args:=[x]) (by simp only[Cm,Nq,Ij,I];rfl) (by simp[G]) true (λh=>by cases h)).nmS;exact⟨_,λp=>A.core.rc (.s 0) p,A.sh 0⟩
 | fz x=>
   simp only[CU]at e;simp only[POp.er,AP,Af,p_.clears];obtain⟨ω1,b⟩:=R.fz0 x;obtain⟨ω2,J⟩:=b.nm.put d;exact g _ _ _ _ J e
 | fzb a o=>
   simp only[CU]at e;cases D:UJ (a.t7 st.sl) st with
   |none=>rw[D]at e;exact e.elim
   | some st1=>
     rw[D]at e;simp only at e;obtain⟨ω1,b⟩:=ZeS R D;cases hs:BC false o st1 with
     |none=>rw[hs]at e;exact e.elim
     | some r=>
       obtain⟨v,C⟩:=r;rw[hs]at e;obtain⟨u,bx,hp,ω',ρ',h1,j⟩:=W7 b hs;obtain⟨ω2,n⟩:=j.put d;have:=g _ _ _ _ n e;simp only[POp.er];cases o<;>first|(simp only[AP,h1];exact this)|(simp[Af]at h1)
 | clm a t o=>
   simp only[CU]at e;obtain⟨ω1,ρ1,st1,b,e⟩:=ZeF R e;cases hs:BC false o st1 with
   |none=>rw[hs]at e;exact e.elim
   | some r=>
     obtain⟨v,C⟩:=r;rw[hs]at e;obtain⟨u,bx,hp,ω',ρ',h1,j⟩:=W7 b hs;obtain⟨ω2,n⟩:=j.put d;have:=g _ _ _ _ n e;simp only[POp.er];cases o<;>first|(simp only[AP,h1];exact this)|(simp[Af]at h1)
theorem Xk:∀(ops:List POper) {ω:Nat->W} {ρ:Nat->Nat} {st:PS} {us:St},AllP (O8 ops)->RS h0 ω0 ω ρ st us X0->∀ {k:PS->Prop} {K:St->Prop},(∀st us ω ρ,RS h0 ω0 ω ρ st us X0->k st->K us)->Kz ops k st->BS (ops.map POper.er) K us
 |[],ω,ρ,st,us,_,R,k,K,hk,e=>hk _ _ _ _ R e
 | o :: r,ω,ρ,st,us,ho,R,k,K,hk,e=>by
   obtain⟨q,s⟩:=ho.app;have i:∀st us ω ρ,RS h0 ω0 ω ρ st us X0->Kz r k st->BS (r.map POper.er) K us:=λst us ω ρ R e=>Xk r s R hk e;simp only[Cm,BS,Kz]at e ⊢;unfold It at e;unfold Cx;simp only[POper.er];cases z:o.guard with
   |none=>rw[z]at e;exact nA R q i e
   | some g=>
     obtain⟨g,y⟩:=g;rw[z]at e;simp only at e ⊢;have j:Kz r k (st.put o.dst (.f8 []))->BS (r.map POper.er) K (us.put o.dst (.f8 [])):=λe=>by
      obtain⟨ω2,C⟩:=R.tup0.put o.dst;exact i _ _ _ _ C e
     split at e
     ·rename_i b u;have:=(R.ev_fl (x:=.t g) u (by simp)).1;simp only[T_.ev]at this;rw[this];simp only;split at e
      ·rename_i n;rw[Ad n];exact nA R q i e
      rename_i n;rw[Ae n];exact j e
     ·rename_i u;obtain⟨ws,h1,A,_⟩:=R.ev_tup u;have:ws=[]:=Dq (by simpa using A);subst this;rw[h1];exact j e
     exact e.elim
theorem lu{n:PS->Prop}{N:St->Prop}{k:GN}{K:CA}(g:∀st us ω ρ,RS h0 ω0 ω ρ st us X0->n st->N us)(b:∀e st us ω ρ,RS h0 ω0 ω ρ st us X0->k e st->K e us):∀e st us ω ρ,RS h0 ω0 ω ρ st us X0->fZ n k e st->Gh N K e us:=by
 intro e st us ω ρ R h;cases e with
 |normal=>exact g _ _ _ _ R h
 |exit i=>exact b _ _ _ _ _ R h
 |ret=>exact b _ _ _ _ _ R h
theorem ZeK{p:POper}(hp:p.plain=true){K j:PS->Prop}(h:∀st,K st->j st){st:PS}(e:It p K st):It p j st:=by
 have b:∀ {st:PS},CU p.op p.dst K st->CU p.op p.dst j st:=by
  intro st;unfold POper.plain at hp;split at hp
  ·rename_i m o i;rw[i];simp only[CU];split
   ·exact h _
   exact id
  ·rename_i ws m o i;rw[i];simp only[CU];split
   ·split
    ·exact h _
    exact id
   exact id
  cases hp
 unfold It at *;split at e
 ·exact b e
 split at e
 ·split at e
  ·rename_i g;rw[Ad g];exact b e
  rename_i g;rw[Ae g];exact h _ e
 ·exact h _ e
 exact e.elim
theorem AllP.cat:∀ {a b:List Ob},AllP a->AllP b->AllP (a++b)
 |[],_,_,h=>h
 |_::_,_,h,h'=>⟨h.1,AllP.cat h.2 h'⟩
theorem Zig{p q:POper}(h:p.canU q=true):p.op.t_=[]/\q.op.t_=[]:=by
 unfold POper.canU at h;split at h
 ·rename_i h1 b _ _ _ _;rw[h1,b];exact⟨rfl,rfl⟩
 cases h
theorem oH:∀ {ops:List POper},Uo ops=true->AllP (O8 ops)->∀ {i:List c_},Pe (ops.map POper.er)=some i->∃b,b.map POper.er=i/\AllP (O8 b)/\∀st (k:PS->Prop),Kz ops k st->Kz b k st
 |[],_,_,_,h=>by cases h
 |[_],_,_,_,h=>by cases h
 | p :: q::r,hp,ho,i,h=>by
   unfold Uo at hp;simp only[Cm]at h;unfold Pe at h;split at hp
   ·rename_i j;rw[Ad j]at h;cases h;refine⟨q::p::r,rfl,?_,λst k e=>ZeX hp e⟩;obtain⟨h1,u⟩:=Zig hp;simp only[O8,h1,u,CL]at ho ⊢;exact ho
   rename_i j;rw[Ae j]at h;rw[Aj]at hp;simp only[Ch]at h;obtain⟨l',h1,rfl⟩:=h;have g:=ho.app;obtain⟨n,rfl,t,s⟩:=oH (ops:=q::r) hp.2 g.2 h1;exact⟨p::n,rfl,AllP.cat g.1 t,λst k e=>ZeK hp.1 (λf4 x=>s f4 k x) e⟩
theorem MV:∀(c:PCode),AllP c.t_->∀ {k:GN} {K:CA},(∀e st us ω ρ,RS h0 ω0 ω ρ st us X0->k e st->K e us)->∀ {st:PS} {us:St} {ω:Nat->W} {ρ:Nat->Nat},RS h0 ω0 ω ρ st us X0->GR c k st->B3 c.er K us
 |.skip,_,k,K,hk,st,us,ω,ρ,R,e=>hk _ _ _ _ _ R e
 |.region ops,ho,k,K,hk,st,us,ω,ρ,R,e=>Xk ops ho R (λst us ω ρ R e=>hk .normal _ _ _ _ R e) e
 | .regionU ops,ho,k,K,hk,st,us,ω,ρ,R,e=>by
   refine⟨Xk ops ho R (λst us ω ρ R e=>hk .normal _ _ _ _ R e) e.2,λF g=>?_⟩;obtain⟨s,rfl,x,u⟩:=oH e.1 ho g;exact Xk s x R (λst us ω ρ R e=>hk .normal _ _ _ _ R e) (u _ _ e.2)
 | .seq l a b,ho,k,K,hk,st,us,ω,ρ,R,e=>by
   obtain⟨h1,g⟩:=ho.app;exact MV a h1 (lu (λst us ω ρ R e=>MV b g hk (R.trim l) e) hk) R e
 | .cond c a b,ho,k,K,hk,st,us,ω,ρ,R,e=>by
   obtain⟨h1,g⟩:=ho.app;simp only[GR]at e;simp only[PCode.er,B3];split at e
   ·rename_i t z;rw[(R.ev_fl z (by simp)).1];simp only;split at e
    ·rename_i ht;rw[Ad ht];exact MV a h1 hk R e
    rename_i ht;rw[Ae ht];exact MV b g hk R e
   exact e.elim
 | .block i a,ho,k,K,hk,st,us,ω,ρ,R,e=>by
   refine MV a ho (λe st us ω ρ R h=>?_) R e;cases e with
   |normal=>exact hk _ _ _ _ _ R h
   |ret=>exact hk _ _ _ _ _ R h
   | exit j=>
     simp only[dK]at h;simp only[Jx];split at h
     ·rename_i q;rw[Ad q];exact hk _ _ _ _ _ R h
     rename_i q;rw[Ae q];exact hk _ _ _ _ _ R h
 | .scope a,ho,k,K,hk,st,us,ω,ρ,R,e=>by
   refine MV a ho (λG f4 v_ ω' ρ' D h=>?_) R e;obtain⟨ω2,A⟩:=D.trunc (n:=st.hp.length) (λl i y=>R.bdp l i (R.fr.ptr l i y));exact hk _ _ _ _ _ A h
 | .loop live a,ho,k,K,hk,st,us,ω,ρ,R,e=>by
   obtain⟨n,e⟩:=e;refine⟨n,?_⟩;have go:∀(n:Nat) (st:PS) (us:St) (ω:Nat->W) (ρ:Nat->Nat),RS h0 ω0 ω ρ st us X0->UG (GR a) live k n st->Pq (B3 a.er) live K n us:=by
    intro n;induction n with
    |zero=>intro st us ω ρ _ h;exact h.elim
    | succ n ih=>
      intro st us ω ρ R h;obtain⟨ω1,C⟩:=R.kp live;exact MV a ho (lu (λst us ω ρ R e=>ih st us ω ρ R e) hk) C h
   exact go n st us ω ρ R e
 |.exit i,_,k,K,hk,st,us,ω,ρ,R,e=>hk _ _ _ _ _ R e
 |.ret,_,k,K,hk,st,us,ω,ρ,R,e=>hk _ _ _ _ _ R e
end
theorem QH{v:PV}(h:v.retc=true):v.argc=true:=by
 cases v with
 |sl q es=>rfl
 |ep=>cases h
 |fl x=>exact h
 |ptr=>rfl
 |_=>cases h
theorem ZgB{cs:List PV}(h:FI cs=true):Kt cs=true:=by
 induction cs with
 |nil=>rfl
 |cons x r b=>simp only[FI,Kt,Aj]at h ⊢;exact⟨QH h.1,b h.2⟩
theorem ZdI{v:PV}(h:v.retok=true):v.argok=true:=by
 cases v with
 |agg cs=>exact ZgB (cs:=cs) h
 |f8 b=>cases h
 |fl x=>exact QH (v:=.fl x) h
 |sl q es=>exact QH (v:=.sl q es) h
 |ep q es j o=>exact QH (v:=.ep q es j o) h
 |box i o=>exact QH (v:=.box i o) h
 |ptr i o=>exact QH (v:=.ptr i o) h
theorem QZ{v:PV}(h:v.retc=true)(hd:Hd):v.i6 hd=false:=by
 cases v with
 |sl q es=>cases q<;>first|rfl|(simp[PV.retc,PV.cell]at h)
 |fl=>rfl
 |ptr=>rfl
 |ep=>cases h
 |box=>cases h
 |agg=>cases h
 |f8=>cases h
theorem Zh7{cs:List PV}(h:FI cs=true)(hd:Hd):PV.borL hd cs=false:=by
 induction cs with
 |nil=>rfl
 |cons x r b=>simp only[FI,PV.borL,Aj,Cl]at h ⊢;exact⟨QZ h.1 hd,b h.2⟩
theorem nj{v:PV}(h:v.retok=true)(hd:Hd):v.i6 hd=false:=by
 cases v with
 |agg cs=>exact Zh7 (cs:=cs) h hd
 |f8 b=>cases h
 |fl x=>exact QZ (v:=.fl x) h hd
 |sl q es=>exact QZ (v:=.sl q es) h hd
 |ep q es j o=>exact QZ (v:=.ep q es j o) h hd
 |box i o=>exact QZ (v:=.box i o) h hd
 |ptr i o=>exact QZ (v:=.ptr i o) h hd
theorem mb{n:Option Nat}{cs:List PV}{v:PV}(e:Ee n cs=some v)(h:FI cs=true):v.retok=true:=by
 cases n with
 |some n=>simp[Ee]at e;subst e;exact h
 | none=>
   match cs with
   | [x]=>
     simp[Ee]at e;subst e;simp only[FI,Mb]at h;cases x with
     |agg=>cases h
     |f8=>cases h
     |_=>exact h
   |[]=>simp[Ee]at e
   |_::_::_=>simp[Ee]at e
section
variable {h0:Ac} {ω0 ω:Nat->W} {ρ ρ':Nat->Nat} {st f4 st1:PS} {us v_:St} {X X':CN}
theorem oh (R : RS h0 ω0 ω ρ st us X) (F:∀p,(X 0).1.S_ p= .fl .undef) (D:∀j hd,(X j).1.i6 hd=false) {r:ARes} {v:PV} (e:Kb st r=some (v,st1)):∃u ω',HE us r=some u/\RS h0 ω0 ω' ρ st1 us (Xs X 0 v u)/\v.retok=true:=by
 cases r with
 | tmp t=>
   simp only[Kb]at e;split at e
   ·rename_i L;simp only[Ap]at e;obtain⟨ω',R1⟩:=R.take t 0 F (λj=>D j _);have hv:(Gm (Aa st.sl t) t st).1=Aa st.sl t:=by
     simp only[Gm];split
     ·rw[Ae (by rw[nj L];simp)]
     rfl
    rw[hv,e]at R1;have h1:Aa st.sl t=v:=(by rw[<- hv,e]);rw[h1]at R1 L;refine⟨get us.sl t,ω',?_,R1,L⟩;have:=sg (ZdI L) (by rw[<- h1];exact R.sh t) (hd:=.s t) (λp=>by rw[<- h1];exact R.core.rc (.s t) p);simp only[HE,this,AX]
   cases e
 | cell t n=>
   simp only[Kb]at e;split at e
   ·rename_i i o M;have z:get us.sl t= .box i o:=R.ev_box (x:=.t t) M;split at e
    ·rename_i Y;obtain⟨g,y⟩:=Y;simp only[Jq,GD,Ad g,AX,Ch]at e;obtain⟨v',e,O⟩:=e;cases O;have A:∀k,Ao (Cf st.bx i (AY (Ao st.bx i) o (Dt (s_ (Ao st.bx i) o (n.getD 1))))) k=if k=i then AY (Ao st.bx i) o (Dt (s_ (Ao st.bx i) o (n.getD 1)))else Ao st.bx k:=by
      intro k;rw[J4];by_cases I:k=i
      ·subst I;rcases Bz k st.bx.length with h|h
       ·simp[h]
       rw[Ae (by omega),Ad rfl];have:Ao st.bx k=[]:=(by rw[Dx,BR h];rfl);rw[this];generalize Dt (s_ [] o (n.getD 1))=q;cases q<;>rfl
      simp[I]
     obtain⟨u,ω',h1,G,_⟩:=R.loadmv F D (f4:={ st with sl:=clr (.b i) st.sl,bx:=Cf st.bx i (AY (Ao st.bx i) o (Dt (s_ (Ao st.bx i) o (n.getD 1)))) }) (hd:=.b i) (cs:=Ao st.bx i) (ws:=A3 us.bx i) (by simp) (by simp)
      (λp => rfl) (λp=>by simp only[Ak,A,Ad]) (λf_ p h h'=>by
       cases f_ with
       |b k=>simp only[Ak,A];rw[Ae (λG=>h (by rw[G]))]
       |s t=>exact absurd rfl (h' t)
       | _ => rfl) rfl (R.lb i).symm g (R.cb i) (by rw[HY];exact R.lbx) (λk=>by
         simp only[A];split
         ·rename_i I;rw[I,HW];exact R.lb i
         ·exact R.lb k) (λk c=>by
         simp only[A];split
         ·rw[Jh _ _ _ _ (by rw[MW,F3 g];exact g)];split
          ·rw[QR];split
           ·rfl
           rw[DY];split
           ·exact R.cb i _
           rfl
          exact R.cb i c
         exact R.cb k c) R.ch rfl (λ_=>rfl) e
     exact⟨u,ω',by simp only[HE,z];rw[Ad (by rw[<- R.lb i];exact g)];exact h1,G,mb e y⟩
    cases e
   ·rename_i i o M;obtain⟨z,_⟩:=R.ev_ptr (x:=.t t) M;simp only[T_.ev]at z;split at e
    ·rename_i Y;obtain⟨hi,g,y⟩:=Y;have U:i<st.hp.length/\o+n.getD 1<=(Ao st.hp i).length:=⟨hi,g⟩;simp only[Jp,Ad U,AX,Ch]at e;obtain⟨v',e,O⟩:=e;cases O;obtain⟨b,hb1,Z,J⟩:=R.Y_ hi;have C:(A6 us.hp (ρ i)).length=(Ao st.hp i).length:=(R.hp i hi).2;have N:rd us.hp (ρ i) o (n.getD 1)=some (((A6 us.hp (ρ i)).drop o).take (n.getD 1)):=by
      simp[rd,hb1,Z,J];rw[<- J,C];exact g
     have A:∀k,Ao (Cf st.hp i (AY (Ao st.hp i) o (Dt (s_ (Ao st.hp i) o (n.getD 1))))) k=if k=i then AY (Ao st.hp i) o (Dt (s_ (Ao st.hp i) o (n.getD 1)))else Ao st.hp k:=by
      intro k;rw[J4];simp[hi]
     obtain⟨u,ω',h1,G,_⟩:=R.loadmv F D (f4:={ st with sl:=clr (.h i) st.sl,hp:=Cf st.hp i (AY (Ao st.hp i) o (Dt (s_ (Ao st.hp i) o (n.getD 1)))) }) (hd:=.h i) (cs:=Ao st.hp i) (ws:=A6 us.hp (ρ i)) (by simp) (by simp)
      (λp => rfl) (λp=>by simp only[Ak,A,Ad]) (λf_ p h h'=>by
       cases f_ with
       |h k=>simp only[Ak,A];rw[Ae (λG=>h (by rw[G]))]
       |s t=>exact absurd rfl (h' t)
       | _ => rfl) rfl C g (R.ch i) R.lbx R.lb R.cb (λk c=>by
         simp only[A];split
         ·rw[Jh _ _ _ _ (by rw[MW,F3 g];exact g)];split
          ·rw[QR];split
           ·rfl
           rw[DY];split
           ·exact R.ch i _
           rfl
          exact R.ch i c
         ·exact R.ch k c) (by simp[HY]) (λk=>by
         simp only[A];split
         ·rename_i I;rw[I,HW]
         rfl) e
     exact⟨u,ω',by simp only[HE,z,N,Jn,h1],G,mb e y⟩
    cases e
   cases e
def HX(l:List (PV×V)):CN:=λi=>match i with
 |0=>(.fl .undef,.undef)|i+1=>l[i]?.getD (.fl .undef,.undef)
theorem re(l:List (PV×V))(x:PV×V)(i:Nat):HX (l++[x]) i=if i=l.length+1 then x else HX l i:=by
 cases i with
 |zero=>rfl
 | succ i=>
   simp only[HX,Nat.add_right_cancel_iff];by_cases h:i=l.length
   ·subst h;simp
   rw[Ae h];rcases Bz i l.length with h1|h1
   ·rw[Bp h1]
   rw[BR (by simp;omega),BR h1]
theorem qB{l:List (PV×V)}(h:∀x∈l,x.1.retok=true)(j:Nat)(hd:Hd):(HX l j).1.i6 hd=false:=by
 cases j with
 |zero=>rfl
 | succ i=>
   simp only[HX];cases e:l[i]? with
   |none=>rfl
   |some x=>exact nj (h x (Il e)) hd
theorem RS.stash{l:List (PV×V)}{v:PV}{u:V}(y:∀x∈l,x.1.retok=true)(R:RS h0 ω0 ω ρ st us (Xs (HX l) 0 v u))(q:v.retok=true):∃ω',RS h0 ω0 ω' ρ st us (HX (l++[(v,u)])):=by
 refine⟨_,RS.ren (f4:=st) (v_:=us) (X':=HX (l++[(v,u)])) R (Ren.mv_ok (.x 0) (.x (l.length+1))) (Y9 (by simp)) (λf_ p=>?_) rfl R.sh (λi=>?_) R.lsl R.lbx R.lb R.cb R.ch rfl (λ_=>rfl)⟩
 ·cases f_ with
  | x i =>
    simp only[Ak,re];by_cases hi:i=l.length+1
    ·subst hi;simp only[Ad];exact .inl ⟨.x 0,p,rfl,λ_ r=>by simp[Ren.mv],λg n j e=>absurd e ((S9 q p).1 g n j)⟩
    simp only[Ae hi];cases i with
    |zero=>exact .inr (Dn (Ba p))
    | succ i=>
      refine .inl ⟨.x (i+1),p,rfl,λ_ r=>Ren.l_ (by simp) (by simpa using hi) _,λg n j e=>?_⟩;exfalso;have:=Ef (qB y (i+1) g) e;exact this rfl
  |s t=>exact .inl (Bm rfl (λ_=>Ren.l_ (by simp) (by simp)) λg n j _ h=>Ren.l_ (h 0) (h _))
  |b t=>exact .inl (Bm rfl (λ_=>Ren.l_ (by simp) (by simp)) λg n j _ h=>Ren.l_ (h 0) (h _))
  |h t=>exact .inl (Bm rfl (λ_=>Ren.l_ (by simp) (by simp)) λg n j _ h=>Ren.l_ (h 0) (h _))
 rw[re];split
 ·exact R.shx 0
 cases i with
 |zero=>exact Bf _
 |succ i=>exact R.shx (i+1)
theorem ko:∀(i:List ARes) {ω:Nat->W} {st st1:PS} {l:List (PV×V)} {g:List PV},(∀x∈l,x.1.retok=true)->RS h0 ω0 ω ρ st us (HX l)->Jt st i=some (g,st1) ->
 ∃ws ω',Fe us i=some ws/\ws.length=g.length/\RS h0 ω0 ω' ρ st1 us (HX (l++g.zip ws))/\∀v∈g,v.retok=true
 | [],ω,st,st1,l,g,hl,R,e=>by
   simp only[Jt,Ap,Aq]at e;obtain⟨rfl,rfl⟩:=e;exact⟨[],ω,rfl,rfl,by simpa using R,by simp⟩
 | r :: i,ω,st,st1,l,g,hl,R,e=>by
   simp only[Jt]at e;cases q:Kb st r with
   |none=>rw[q]at e;cases e
   | some x=>
     obtain⟨v,t⟩:=x;rw[q]at e;simp only at e;cases n:Jt t i with
     |none=>rw[n]at e;cases e
     | some y=>
       obtain⟨s,I⟩:=y;rw[n]at e;cases e;obtain⟨u,ω1,h1,G,j⟩:=oh R (λp=>Ba p) (qB hl) q;obtain⟨ω2,F⟩:=RS.stash hl G j;obtain⟨ws,ω3,C,A,D,z⟩:=ko i (l:=l++[(v,u)]) (λx b=>by
        rcases CI.1 b with b|b
        ·exact hl x b
        simp at b;rw[b];exact j) F n
       refine⟨u::ws,ω3,by simp only[Fe,h1,C],by simp[A],by simpa using D,?_⟩;simp only[CE];rintro x (rfl|b)
       ·exact j
       exact z x b
def Ren.tupl:Ren:=λhd p=>match hd with
 |.x 0=>.Z_|.x (j+1)=>.own (.x 0) (j::p)|hd=>.own hd p
theorem Ren.tupl_ok:Ren.tupl.Ok:=by
 refine⟨λhd p f_ p' x c e b=>?_,λhd p=>?_⟩
 ·cases hd with
  | x j => cases j with
    |zero=>cases e
    | succ j=>
      cases e;cases f_ with
      | x k=>cases k with
        |zero=>cases b
        |succ k=>simp[Ren.tupl]at b;exact⟨by rw[b.1],b.2.symm⟩
      |_=>simp[Ren.tupl]at b
  | _=>
    cases e;cases f_ with
    |x k=>cases k<;>simp[Ren.tupl]at b
    |_=>simp[Ren.tupl]at b;first|exact⟨by rw[b.1],b.2.symm⟩|skip
 cases hd with
 | x j=>cases j with
   |zero=>exact .inl rfl
   |succ j=>exact .inr ⟨_,_,rfl⟩
 |_=>exact .inr ⟨_,_,rfl⟩
theorem Ren.tupl_still{hd:Hd}(h:∀i,hd≠.x i):Ren.tupl.still hd:=λp=>by
 cases hd with
 |x i=>exact absurd rfl (h i)
 |_=>rfl
theorem Zjx(hd:Hd)(p:List Nat)(i:Nat)(q:List Nat)(e:Ren.tupl hd p= .own (.h i) q):hd= .h i:=by
 cases hd with
 |x j=>cases j<;>cases e
 |_=>first|(cases e;done)|(cases e;rfl)
theorem p7{b:List PV}{ws:List V}(j:ws.length=b.length)(i:Nat):HX (b.zip ws) (i+1)=(Aa b i,get ws i):=by
 simp only[HX,D1,CZ];rcases Bz i b.length with h|h
 ·have g:i<ws.length:=(by omega);rw[Bc (by simp;omega),Bc h,Bc g];simp
 rw[BR (by simp;omega),BR h,BR (by omega)];rfl
theorem aY{v:PV}(h:v.retok=true\/v= .fl .undef):∀b,v≠.f8 b:=by
 rintro b rfl;rcases h with h|h<;>cases h
theorem cI{b:List PV}(h:∀v∈b,v.retok=true)(i:Nat):(Aa b i).retok=true\/Aa b i= .fl .undef:=by
 rw[D1];cases e:b[i]? with
 |none=>exact .inr rfl
 |some v=>exact .inl (h v (Il e))
theorem RS.tupl{g:List PV}{ws:List V}(R:RS h0 ω0 ω ρ st us (HX (g.zip ws)))(A:ws.length=g.length)(D:∀v∈g,v.retok=true):∃ω',RS h0 ω0 ω' ρ st us (X1 (.f8 g) (.f8 ws)):=by
 have n:∀i,A9 (Aa g i) (get ws i):=λi=>by have:=R.shx (i+1);rw[p7 A]at this;exact this
 refine⟨_,RS.ren (f4:=st) (v_:=us) (X':=X1 (.f8 g) (.f8 ws)) R Ren.tupl_ok Zjx (λf_ p=>?_) rfl R.sh (λi=>?_) R.lsl R.lbx R.lb R.cb R.ch rfl (λ_=>rfl)⟩
 ·cases f_ with
  | x i =>
    by_cases hi:i=0
    ·subst hi
     match p with
     |[]=>exact .inr (A4 rfl)
     |[_]=>exact .inr (A4 rfl)
     |_::_::_::_=>exact .inr (A4 rfl)
     | [k, c]=>
       have C:Ak ρ st us (X1 (.f8 g) (.f8 ws)) (.x 0) [k,c]=(Aa (Aa g k).cells c,get (get ws k).cells c):=rfl;rw[C];rcases cI D k with q|q
       ·have j:=aY (.inl q);have hs:Shp1 (Aa g k) (get ws k):=by
         have:=n k;generalize Aa g k=w at this j;cases w with
         |f8 g=>exact absurd rfl (j _)
         |_=>exact this
        have G:Aa g k≠.fl .undef:=(by intro h;rw[h]at q;cases q);have F:=On j c;have I:=S7 (hs.notup G) c;refine .inl ⟨.x (k+1),[c],?_,λ_ r=>rfl,λz y u e=>?_⟩
        ·simp only[Ak,p7 A];rw[F,I]
        rw[<- F]at e;exact absurd e ((S9 q [c]).1 z y u)
       refine .inr (Dn ?_);rw[q];cases c<;>rfl
    exact .inr (A4 (F9 i hi p))
  |s t=>exact .inl (Bm rfl (λ_=>Ren.tupl_still (by simp)) λz y u _ h=>Ren.tupl_still h)
  |b t=>exact .inl (Bm rfl (λ_=>Ren.tupl_still (by simp)) λz y u _ h=>Ren.tupl_still h)
  |h t=>exact .inl (Bm rfl (λ_=>Ren.tupl_still (by simp)) λz y u _ h=>Ren.tupl_still h)
 by_cases hi:i=0
 ·subst hi;refine⟨ws,rfl,A,λi=>?_⟩;have j:=aY (cI D i);have:=n i;generalize Aa g i=w at this j;cases w with
  |f8 g=>exact absurd rfl (j _)
  |_=>exact this
 rw[D6 _ _ i hi];exact Bf _
theorem ZdK(R:RS h0 ω0 ω ρ st us X0){g:List ARes}{v:PV}(e:Mg st g=some (v,st1)):∃u ω',Fp us g=some u/\RS h0 ω0 ω' ρ st1 us (X1 v u)/\v.nob:=by
 have b:(Jt st g).map (λ(x,st)=>(PV.f8 x,st))=some (v,st1)->(∀r,g≠[r])->∃u ω',Fp us g=some u/\RS h0 ω0 ω' ρ st1 us (X1 v u)/\v.nob:=by
  intro e j;simp only[Ch]at e;obtain⟨⟨x,s⟩,I,G⟩:=e;cases G;have F:(HX []:CN)=X0:=(by funext i;cases i<;>rfl);obtain⟨ws,ω1,h1,y,D,n⟩:=ko g (l:=[]) (by simp) (by rw[F];exact R) I;rw[CL]at D;obtain⟨ω2,J⟩:=D.tupl y n;refine⟨.f8 ws,ω2,?_,J,λp C A z e=>?_⟩
  ·match g,j with
   |[],_=>simp only[Fp,h1];rfl
   |[r],j=>exact absurd rfl (j r)
   |_::_::_,_=>simp only[Fp,h1];rfl
  match p with
  |[]=>cases e
  |[_]=>cases e
  |_::_::_::_=>cases e
  | [k,c]=>
    have t:(Aa (Aa x k).cells c).q=some (.i6 C A z):=e;rcases cI n k with j|j
    ·rw[<- On (aY (.inl j)) c]at t;exact(S9 j [c]).1 C A z t
    rw[j]at t;cases c<;>cases t
 match g,e,b with
 | [r],e,_=>
   obtain⟨u,ω',h1,y,n⟩:=oh R (λp=>Ba p) (λ_ _=>rfl) e;exact⟨u,ω',h1,y,λp=>(S9 n p).1⟩
 |[],e,b=>exact b e (by simp)
 |_::_::_,e,b=>exact b e (by simp)
theorem RS.forget(R:RS h0 ω0 ω ρ st us X):RS h0 ω0 ω ρ ⟨[],[],st.hp⟩ ⟨[],[],us.hp⟩ X:=by
 have:=RS.ren (f4:=⟨[],[],st.hp⟩) (v_:=⟨[],[],us.hp⟩) (X':=X) R Ren.id_ok (λhd p i q e=>by simp[Ren.id]at e;exact e.1) (λf_ p=>?_) rfl (λt=>Bf _) R.shx rfl rfl (λ_=>rfl) (λ_ _=>rfl) R.ch rfl (λ_=>rfl)
 ·rwa [DF]at this
 cases f_ with
 |x i=>exact .inl (Bv rfl)
 |h i=>exact .inl (Bv rfl)
 |s t=>exact .inr (A4 (Ba p))
 |b t=>refine .inr (A4 ?_);simp only[Ak,Ao];unfold Be;split<;>rfl
theorem ZgL(n i:Nat):Aa (JH n) i= .fl .undef:=by
 induction n generalizing i with
 |zero=>rfl
 | succ n ih=>cases i with
   |zero=>rfl
   |succ i=>exact ih i
theorem Zfh(n:Nat):(JH n).length=n:=by
 induction n with
 |zero=>rfl
 |succ n b=>simp[JH,b]
theorem bN(n i:Nat):Ao (Mf n) i=[]:=by
 induction n generalizing i with
 |zero=>rfl
 | succ n ih=>cases i with
   |zero=>rfl
   |succ i=>exact ih i
theorem ZfL(n i:Nat):A3 (HK n) i=[]:=by
 induction n generalizing i with
 |zero=>rfl
 | succ n ih=>cases i with
   |zero=>rfl
   |succ i=>exact ih i
theorem ZgA(n:Nat):(Mf n).length=n:=by
 induction n with
 |zero=>rfl
 |succ n b=>simp[Mf,b]
theorem Zg3(n:Nat):(HK n).length=n:=by
 induction n with
 |zero=>rfl
 |succ n b=>simp[HK,b]
theorem RS.start{args:List PV}{ws:List V}{H:List (List PV)}{h:Ac}(R:RS h0 ω0 ω ρ ⟨args,[],H⟩ ⟨ws,[],h⟩ X0)(n m:Nat):RS h0 ω0 ω ρ ⟨args++JH n,Mf m,H⟩ ⟨ws++EE n,HK m,h⟩ X0:=by
 have j:args.length=ws.length:=R.lsl;have sl:∀t,(t<args.length/\Aa (args++JH n) t=Aa args t/\get (ws++EE n) t=get ws t)\/Aa (args++JH n) t= .fl .undef:=by
  intro t;rcases Bz t args.length with h|h
  ·exact .inl ⟨h,Z7 _ _ _ h,jq _ _ _ (by omega)⟩
  exact .inr (by rw[ZR _ _ _ h,ZgL])
 have:=RS.ren (f4:=⟨args++JH n,Mf m,H⟩) (v_:=⟨ws++EE n,HK m,h⟩) (X':=X0) R Ren.id_ok (λhd p i q e=>by simp[Ren.id]at e;exact e.1) (λf_ p=>?_) rfl (λt=>?_) R.shx (by simp[Zfh,n8,j]) (by simp[ZgA,Zg3]) (λi=>by simp[bN,ZfL]) (λi c=>by simp[bN,Aa,PV.lay]) R.ch rfl (λ_=>rfl)
 ·rwa [DF]at this
 ·cases f_ with
  |x i=>exact .inl (Bv rfl)
  |h i=>exact .inl (Bv rfl)
  | s t=>
    simp only[Ak];rcases sl t with⟨_,h1,g⟩|h1
    ·rw[h1,g];exact .inl (Bv (hd:=.s t) rfl)
    rw[h1];exact .inr (Dn (Ba p))
  |b t=>refine .inr (A4 ?_);simp only[Ak,bN];unfold Be;split<;>rfl
 simp only;rcases sl t with⟨_,h1,g⟩|h1
 ·rw[h1,g];exact R.sh t
 rw[h1];exact Bf _
theorem cK{cs:List PV}(h:PV.fltL cs=true)(c:Nat)(b:c<cs.length):(Aa cs c).flt=true:=by
 induction cs generalizing c with
 |nil=>simp at b
 | cons x r ih=>
   simp only[PV.fltL,Aj]at h;cases c with
   |zero=>exact h.1
   |succ c=>exact ih h.2 c (by simpa using b)
theorem cY{H:Ac}{m:Md}{v:PV}{u:V}(r:RC H ω m v u)(h:v.flt=true):u.flat=true/\v= .fl u:=by
 cases r with
 |undef=>cases h
 |v _ _ b=>exact⟨b,rfl⟩
 |nil=>cases h
 |sl=>cases h
 |ep=>cases h
 |box=>cases h
 |ptr=>cases h
theorem mG{H:Ac}{hd:Hd}{p:List Nat}{v:PV}{u:V}(h:v.flt=true)(hs:Shp1 v u)(g:∀c,RC H ω (.at hd (p++[c])) (Aa v.cells c) (get u.cells c)):u.flat1=true:=by
 cases v with
 | agg cs=>
   obtain⟨ws,rfl,s⟩:=hs;simp only[V.flat1,DE];intro w j;obtain⟨c,n,rfl⟩:=Ik j;have r:RC H ω (.at hd (p++[c])) (Aa cs c) (get ws c):=g c;rw[CZ,Bc n]at r;exact(cY r (cK h c (by omega))).1
 |f8 q=>exact hs.elim
 | fl x=>
   have i:x≠.undef:=(by rintro rfl;cases h);have b:(∀us,u≠.agg us)/\∀us,u≠.f8 us:=(by cases x<;>first|exact hs|exact absurd rfl i);have r:RC H ω (.at hd (p++[0])) (.fl x) (get u.cells 0):=g 0;have e:get u.cells 0=u:=(by cases u<;>first|rfl|exact absurd rfl (b.1 _));rw[e]at r;have:=(cY r h).1;cases u<;>first|exact this|exact absurd rfl (b.1 _)
 |_=>cases h
theorem ZgQ{v:PV}{u:V}(R:RS h0 ω0 ω ρ st us (X1 v u))(h:v.flt=true):u.flat2=true:=by
 have hs:A9 v u:=R.shx 0;have s:∀p,RC us.hp ω (.at (.x 0) p) (v.S_ p) (u.S_ p):=λp=>R.core.rc (.x 0) p;have n:(∀j,v≠.f8 j)->u.flat2=true:=by
  intro g;have b:Shp1 v u:=(by cases v<;>first|exact hs|exact absurd rfl (g _));have t:v≠.fl .undef:=(by rintro rfl;cases h);have:=mG (p:=[]) h b (λc=>by have:=s [c];rw[On g,S7 (b.notup t)]at this;exact this);have q:=b.notup t;cases u<;>first|exact this|exact absurd rfl (q _)
 cases v with
 | f8 j=>
   obtain⟨ws,rfl,C,A⟩:=hs;simp only[V.flat2,DE];intro w y;obtain⟨i,hi,rfl⟩:=Ik y;have z:=cK (cs:=j) h i (by omega);have:=mG (hd:=.x 0) (p:=[i]) z (A i) (λc=>s [i,c]);rw[CZ,Bc hi]at this;exact this
 |_=>exact n (by simp)
theorem Xo{f:PFun}(L:AllP f.body.t_):Kf (ER f.er) (Jv f):=by
 intro h ω0 ρ args ws H Q K R hloc ⟨hlen,hpu,hb⟩ hK;refine⟨by rw[<- R.lsl];exact hlen,?_⟩;have O:=R.start (f.nslots-f.nparams) f.nbox;have C:h.length<=h.length:=BN _;refine MV f.body L (k:=sO f.pure f.res Q) (K:=Zg f.er h K) (λe st us ω ρ2 N g=>?_) O hb;have y:(match Mg st f.res with|some (v,st)=>if f.pure then v.flt=true/\Q v []else Q v st.hp|none=>False)->(match Fp us f.res with|some v=>if f.pure then v.flat2=true/\us.hp.take h.length=h/\K v h else K v us.hp|none=>False):=by
  intro g;cases hp:Mg st f.res with
  |none=>rw[hp]at g;exact g.elim
  | some x=>
    obtain⟨v,Z⟩:=x;rw[hp]at g;simp only at g;obtain⟨u,ω',h1,z,n⟩:=ZdK N hp;rw[h1];simp only;cases j:f.pure with
    | false=>
      rw[j]at g;simp only[AZ,A5]at g ⊢;exact hK _ _ _ _ _ _ g z.forget n
    | true=>
      rw[j]at g;simp only[AX]at g ⊢;have M:=hpu j;subst M;have t:∀l,l<h.length->us.hp[l]?=h[l]?:=by
       intro l A;refine(z.fr.old l A ?_).1;cases e:ω0 l with
       |Z_=>exact .inl rfl
       |none=>exact .inr rfl
       | own hd p=>
         obtain⟨i,rfl⟩:=hloc l hd p e;have:=R.bdh l i p e;simp at this
       |ptr i=>have:=R.bdp l i e;simp at this
      have F:=ZgQ z g.1;refine⟨F,?_,?_⟩
      ·refine JB λl=>?_;by_cases A:l<h.length
       ·rw[OV A,t l A]
       rw[BR (by simp;omega),BR (by omega)]
      ·
       have hs:A9 v u:=z.shx 0;have s:∀p,RC h ω0 (.at (.x 0) p) (v.S_ p) (u.S_ p):=by
        intro p;have r:RC us.hp ω' (.at (.x 0) p) (v.S_ p) (u.S_ p):=z.core.rc (.x 0) p;have D:(v.S_ p).flt=true\/v.S_ p= .fl .undef:=by
         have I:∀(cs:List PV) c,PV.fltL cs=true->(Aa cs c).flt=true\/Aa cs c= .fl .undef:=by
          intro cs c h;rcases Bz c cs.length with G|G
          ·exact .inl (cK h c G)
          exact .inr (GC _ _ G)
         have q:=g.1;unfold PV.S_;split
         ·exact I _ _ q
         ·exact .inr rfl
         ·rename_i J i c;rcases I J i q with h|h
          ·generalize Aa J i=w at h;cases w with
           |agg cs=>exact I cs c h
           |_=>cases c<;>first|exact .inl h|exact .inr rfl
          rw[h];cases c<;>exact .inr rfl
         ·exact .inr rfl
         ·exact .inl q
         exact .inr rfl
        rcases D with h|h
        ·obtain⟨a,b⟩:=cY r h;rw[b];exact .v _ _ a
        rw[h];exact .undef _ _
       have U:RS h ω0 ω0 ρ ⟨[],[],[]⟩ ⟨[],[],h⟩ X0:=R.forget;exact hK u h v [] ω0 ρ g.2 (U.handx hs s (λp=>by
        intro i pb Y e;exact n p _ _ _ e)) n
 cases e with
 |normal=>exact y g
 |ret=>exact y g
 |exit i=>exact g.elim
end
noncomputable section
def shut.{u}{α:Sort u}(a:α):{x:α // x=a}:=Classical.choice ⟨⟨a,rfl⟩⟩
section
variable {α:Type}
def ZkX(k:IntKind)(a b:Int):Int:=k.wrap (a+b)
def Zk8(k:IntKind)(a b:Int):Int:=k.wrap (a-b)
def ZkB(k:IntKind)(a b:Int):Int:=k.wrap (a*b)
def Zld(k:IntKind)(a b:Int):Int:=k.wrap (a.tdiv b)
def Zku(a b:Int):Int:=a.tmod b
def ZkP(k:IntKind)(a b:Int):Int:=k.wrap (BitVec.ofInt k.bits a &&& BitVec.ofInt k.bits b).toNat
def Zlr(k:IntKind)(a b:Int):Int:=k.wrap (BitVec.ofInt k.bits a ||| BitVec.ofInt k.bits b).toNat
def Zko(k:IntKind)(a b:Int):Int:=k.wrap (BitVec.ofInt k.bits a ^^^ BitVec.ofInt k.bits b).toNat
def ZgW(k:IntKind)(a b:Int):Int:=k.wrap (BitVec.ofInt k.bits a &&& ~~~BitVec.ofInt k.bits b).toNat
def ZkQ(k:IntKind)(a b:Int):Int:=k.wrap (a*2^min b.toNat k.bits)
def ZkU(k:IntKind)(a b:Int):Int:=a.fdiv (2^min b.toNat k.bits)
def ZkZ(k:IntKind)(a:Int):Int:=k.wrap (0-a)
def ZjP(k:IntKind)(a:Int):Int:=k.wrap a
def Zla(a b:Int):Int:=if b<a then b else a
def ZkA(a b:Int):Int:=if b > a then b else a
def ZkM(a:Int):Nat:=a.toNat
def Zlh(a b:Int):Bool:=a == b
def Zli(a b:Int):Bool:=a != b
def Zle(a b:Int):Bool:=decide (a<b)
def Zlq(a b:Int):Bool:=decide (a<=b)
def Zln(a b:Int):Bool:=decide (a > b)
def Zlf(a b:Int):Bool:=decide (a>=b)
def ZkC(a b:List UInt8):List UInt8:=a++b
def Zls(a b:List UInt8):Bool:=a == b
def Zlp(a b:List UInt8):Bool:=!(a == b)
def ZkJ(s:List UInt8)(j:Int):Int:=(s.getD j.toNat 0).toNat
def Zlc(s:List UInt8):List Int:=s.map λb=>((b.toNat:Nat):Int)
def ZkG(l:List Int):List UInt8:=l.map λn=>UInt8.ofNat n.toNat
def Zk9(l:List α):Int:=l.length
def Zlv(l:List α):Nat:=l.length
def Zkz(l:List α)(j:Nat)(d:α):α:=l.getD j d
def ZkH(l:List α)(j:Nat)(x:α):List α:=l.set j x
def Zkx(l:List α)(a b:Nat):List α:=(l.drop a).take (b-a)
def Zj6(l:List α)(n:Nat):List α:=l.take n
def Zk5(l m:List α):List α:=l++m
def Zlb(n:Int)(x:α):List α:=List.replicate n.toNat x
def ZkK(a:Bool):Bool:=!a
def ZkI(a b:Bool):Bool:=a&&b
def Zlk(a b:Bool):Bool:=a||b
def ZkE(a b:Bool):Bool:=a == b
def ZkS(c:Bool)(x y:α):α:=bif c then x else y
end
structure Leaf where
 V_:∀(k:IntKind) (a b:Int),Int
 iSub:∀(k:IntKind) (a b:Int),Int
 iMul:∀(k:IntKind) (a b:Int),Int
 iQuo:∀(k:IntKind) (a b:Int),Int
 iRem:∀(a b:Int),Int
 iAnd:∀(k:IntKind) (a b:Int),Int
 iOr:∀(k:IntKind) (a b:Int),Int
 iXor:∀(k:IntKind) (a b:Int),Int
 iAndNot:∀(k:IntKind) (a b:Int),Int
 iShl:∀(k:IntKind) (a b:Int),Int
 iShr:∀(k:IntKind) (a b:Int),Int
 iNeg:∀(k:IntKind) (a:Int),Int
 iConv:∀(k:IntKind) (a:Int),Int
 iMin:∀(a b:Int),Int
 iMax:∀(a b:Int),Int
 R_:∀(a:Int),Nat
 g_:∀(a b:Int),Bool
 j_:∀(a b:Int),Bool
 b_:∀(a b:Int),Bool
 iLe:∀(a b:Int),Bool
 iGt:∀(a b:Int),Bool
 iGe:∀(a b:Int),Bool
 sAdd:∀(a b:List UInt8),List UInt8
 sEq:∀(a b:List UInt8),Bool
 sNe:∀(a b:List UInt8),Bool
 sGet:∀(s:List UInt8) (j:Int),Int
 sRow:∀(s:List UInt8),List Int
 rowS:∀(l:List Int),List UInt8
 V':∀ {α:Type} (l:List α),Int
 lN:∀ {α:Type} (l:List α),Nat
 So:∀ {α:Type} (l:List α) (j:Nat) (d:α),α
 lSet:∀ {α:Type} (l:List α) (j:Nat) (x:α),List α
 lSub:∀ {α:Type} (l:List α) (a b:Nat),List α
 lTake:∀ {α:Type} (l:List α) (n:Nat),List α
 i9:∀ {α:Type} (l m:List α),List α
 lRep:∀ {α:Type} (n:Int) (x:α),List α
 U':∀(a:Bool),Bool
 W_:∀(a b:Bool),Bool
 t8:∀(a b:Bool),Bool
 bIff:∀(a b:Bool),Bool
 Z':∀ {α:Type} (c:Bool) (x y:α),α
def rR:Leaf:=⟨@ZkX,@Zk8,@ZkB,@Zld,@Zku,@ZkP,@Zlr,@Zko,@ZgW,@ZkQ,@ZkU,@ZkZ,@ZjP,@Zla,@ZkA,@ZkM,@Zlh,@Zli,@Zle,@Zlq,@Zln,@Zlf,@ZkC,@Zls,@Zlp,@ZkJ,@Zlc,@ZkG,@Zk9,@Zlv,@Zkz,@ZkH,@Zkx,@Zj6,@Zk5,@Zlb,@ZkK,@ZkI,@Zlk,@ZkE,@ZkS⟩
def AW:{l:Leaf // l=rR}:=Classical.choice ⟨⟨rR,rfl⟩⟩
section
variable {α:Type}
@[irreducible] def V_(k:IntKind)(a b:Int):Int:=AW.1.V_ k a b
theorem eK(k:IntKind)(a b:Int):V_ k a b=(k.wrap (a+b)):=by unfold V_;rw[AW.2];rfl
@[irreducible] def iSub(k:IntKind)(a b:Int):Int:=AW.1.iSub k a b
theorem qJ(k:IntKind)(a b:Int):iSub k a b=(k.wrap (a-b)):=by unfold iSub;rw[AW.2];rfl
@[irreducible] def iMul(k:IntKind)(a b:Int):Int:=AW.1.iMul k a b
theorem Zka(k:IntKind)(a b:Int):iMul k a b=(k.wrap (a*b)):=by unfold iMul;rw[AW.2];rfl
@[irreducible] def iQuo(k:IntKind)(a b:Int):Int:=AW.1.iQuo k a b
theorem Zkg(k:IntKind)(a b:Int):iQuo k a b=(k.wrap (a.tdiv b)):=by unfold iQuo;rw[AW.2];rfl
@[irreducible] def iRem(a b:Int):Int:=AW.1.iRem a b
theorem eX(a b:Int):iRem a b=(a.tmod b):=by unfold iRem;rw[AW.2];rfl
@[irreducible] def iAnd(k:IntKind)(a b:Int):Int:=AW.1.iAnd k a b
theorem qp(k:IntKind)(a b:Int):iAnd k a b=(k.wrap (BitVec.ofInt k.bits a &&& BitVec.ofInt k.bits b).toNat):=by unfold iAnd;rw[AW.2];rfl
@[irreducible] def iOr(k:IntKind)(a b:Int):Int:=AW.1.iOr k a b
theorem rZ(k:IntKind)(a b:Int):iOr k a b=(k.wrap (BitVec.ofInt k.bits a ||| BitVec.ofInt k.bits b).toNat):=by unfold iOr;rw[AW.2];rfl
@[irreducible] def iXor(k:IntKind)(a b:Int):Int:=AW.1.iXor k a b
theorem qQ(k:IntKind)(a b:Int):iXor k a b=(k.wrap (BitVec.ofInt k.bits a ^^^ BitVec.ofInt k.bits b).toNat):=by unfold iXor;rw[AW.2];rfl
@[irreducible] def iAndNot(k:IntKind)(a b:Int):Int:=AW.1.iAndNot k a b
theorem mE(k:IntKind)(a b:Int):iAndNot k a b=(k.wrap (BitVec.ofInt k.bits a &&& ~~~BitVec.ofInt k.bits b).toNat):=by unfold iAndNot;rw[AW.2];rfl
@[irreducible] def iShl(k:IntKind)(a b:Int):Int:=AW.1.iShl k a b
theorem qO(k:IntKind)(a b:Int):iShl k a b=(k.wrap (a*2^min b.toNat k.bits)):=by unfold iShl;rw[AW.2];rfl
@[irreducible] def iShr(k:IntKind)(a b:Int):Int:=AW.1.iShr k a b
theorem qX(k:IntKind)(a b:Int):iShr k a b=(a.fdiv (2^min b.toNat k.bits)):=by unfold iShr;rw[AW.2];rfl
@[irreducible] def iNeg(k:IntKind)(a:Int):Int:=AW.1.iNeg k a
theorem Zj9(k:IntKind)(a:Int):iNeg k a=(k.wrap (0-a)):=by unfold iNeg;rw[AW.2];rfl
@[irreducible] def iConv(k:IntKind)(a:Int):Int:=AW.1.iConv k a
theorem pk(k:IntKind)(a:Int):iConv k a=(k.wrap a):=by unfold iConv;rw[AW.2];rfl
@[irreducible] def iMin(a b:Int):Int:=AW.1.iMin a b
theorem Zkk(a b:Int):iMin a b=(if b<a then b else a):=by unfold iMin;rw[AW.2];rfl
@[irreducible] def iMax(a b:Int):Int:=AW.1.iMax a b
theorem ZjK(a b:Int):iMax a b=(if b > a then b else a):=by unfold iMax;rw[AW.2];rfl
@[irreducible] def R_(a:Int):Nat:=AW.1.R_ a
theorem fJ(a:Int):R_ a=(a.toNat):=by unfold R_;rw[AW.2];rfl
@[irreducible] def g_(a b:Int):Bool:=AW.1.g_ a b
theorem Y8(a b:Int):g_ a b=(a == b):=by unfold g_;rw[AW.2];rfl
@[irreducible] def j_(a b:Int):Bool:=AW.1.j_ a b
theorem rI(a b:Int):j_ a b=(a != b):=by unfold j_;rw[AW.2];rfl
@[irreducible] def b_(a b:Int):Bool:=AW.1.b_ a b
theorem rU(a b:Int):b_ a b=(decide (a<b)):=by unfold b_;rw[AW.2];rfl
@[irreducible] def iLe(a b:Int):Bool:=AW.1.iLe a b
theorem rV(a b:Int):iLe a b=(decide (a<=b)):=by unfold iLe;rw[AW.2];rfl
@[irreducible] def iGt(a b:Int):Bool:=AW.1.iGt a b
theorem rO(a b:Int):iGt a b=(decide (a > b)):=by unfold iGt;rw[AW.2];rfl
@[irreducible] def iGe(a b:Int):Bool:=AW.1.iGe a b
theorem so(a b:Int):iGe a b=(decide (a>=b)):=by unfold iGe;rw[AW.2];rfl
@[irreducible] def sAdd(a b:List UInt8):List UInt8:=AW.1.sAdd a b
theorem qT(a b:List UInt8):sAdd a b=(a++b):=by unfold sAdd;rw[AW.2];rfl
@[irreducible] def sEq(a b:List UInt8):Bool:=AW.1.sEq a b
theorem r7(a b:List UInt8):sEq a b=(a == b):=by unfold sEq;rw[AW.2];rfl
@[irreducible] def sNe(a b:List UInt8):Bool:=AW.1.sNe a b
theorem rK(a b:List UInt8):sNe a b=(!(a == b)):=by unfold sNe;rw[AW.2];rfl
@[irreducible] def sGet(s:List UInt8)(j:Int):Int:=AW.1.sGet s j
@[irreducible] def sRow(s:List UInt8):List Int:=AW.1.sRow s
theorem Zj3(s:List UInt8):sRow s=(s.map λb=>((b.toNat:Nat):Int)):=by unfold sRow;rw[AW.2];rfl
@[irreducible] def rowS(l:List Int):List UInt8:=AW.1.rowS l
@[irreducible] def V'(l:List α):Int:=AW.1.V' l
theorem qG(l:List α):V' l=(l.length):=by unfold V';rw[AW.2];rfl
@[irreducible] def lN(l:List α):Nat:=AW.1.lN l
theorem Zj(l:List α):lN l=(l.length):=by unfold lN;rw[AW.2];rfl
@[irreducible] def So(l:List α)(j:Nat)(d:α):α:=AW.1.So l j d
theorem fH(l:List α)(j:Nat)(d:α):So l j d=(l.getD j d):=by unfold So;rw[AW.2];rfl
@[irreducible] def lSet(l:List α)(j:Nat)(x:α):List α:=AW.1.lSet l j x
theorem fu(l:List α)(j:Nat)(x:α):lSet l j x=(l.set j x):=by unfold lSet;rw[AW.2];rfl
@[irreducible] def lSub(l:List α)(a b:Nat):List α:=AW.1.lSub l a b
theorem qA(l:List α)(a b:Nat):lSub l a b=((l.drop a).take (b-a)):=by unfold lSub;rw[AW.2];rfl
@[irreducible] def lTake(l:List α)(n:Nat):List α:=AW.1.lTake l n
theorem dL(l:List α)(n:Nat):lTake l n=(l.take n):=by unfold lTake;rw[AW.2];rfl
@[irreducible] def i9(l m:List α):List α:=AW.1.i9 l m
theorem O7(l m:List α):i9 l m=(l++m):=by unfold i9;rw[AW.2];rfl
@[irreducible] def lRep(n:Int)(x:α):List α:=AW.1.lRep n x
theorem rF(n:Int)(x:α):lRep n x=(List.replicate n.toNat x):=by unfold lRep;rw[AW.2];rfl
@[irreducible] def U'(a:Bool):Bool:=AW.1.U' a
theorem Ri(a:Bool):U' a=(!a):=by unfold U';rw[AW.2];rfl
@[irreducible] def W_(a b:Bool):Bool:=AW.1.W_ a b
theorem fg(a b:Bool):W_ a b=(a&&b):=by unfold W_;rw[AW.2];rfl
@[irreducible] def t8(a b:Bool):Bool:=AW.1.t8 a b
theorem rM(a b:Bool):t8 a b=(a||b):=by unfold t8;rw[AW.2];rfl
@[irreducible] def bIff(a b:Bool):Bool:=AW.1.bIff a b
theorem qS(a b:Bool):bIff a b=(a == b):=by unfold bIff;rw[AW.2];rfl
@[irreducible] def Z'(c:Bool)(x y:α):α:=AW.1.Z' c x y
theorem fe(c:Bool)(x y:α):Z' c x y=(bif c then x else y):=by unfold Z';rw[AW.2];rfl
end
mutual
inductive CT where
 |int (k:IntKind)|bool|str|ifc|sl (r:RT)|slf (r:RT)
inductive RT where
 |one (t:CT)|cons (t:CT) (r:RT)
end
abbrev AO:RT:=.cons (.int .i64) (.cons (.int .i64) (.one (.int .i64)))
abbrev Az:RT:=.cons (.int .i64) (.cons (.int .i64) (.cons (.int .i64) (.one (.int .i64))))
abbrev AS:RT:=.cons (.int .i64) (.cons (.int .i64) (.cons (.int .i64) (.cons (.int .i64) (.one (.int .i64)))))
mutual
def CT.D:CT->Type
 |.int _=>Int|.bool=>Bool|.str=>List UInt8|.ifc=>Bool|.sl r=>List r.D|.slf r=>List r.D
def RT.D:RT->Type
 |.one t=>t.D|.cons t r=>t.D×r.D
end
def RT.w:RT->Nat
 |.one _=>1|.cons _ r=>r.w+1
def CT.dflt:(t:CT)->t.D
 |.int _=>(0:Int)|.bool=>false|.str=>([]:List UInt8)|.ifc=>true|.sl r=>([]:List r.D)|.slf r=>([]:List r.D)
def RT.dflt:(r:RT)->r.D
 |.one t=>t.dflt|.cons t r=>(t.dflt,r.dflt)
mutual
def CT.beq:CT->CT->Bool
 |.int k,.int k'=>decide (k=k')|.bool,.bool=>true|.str,.str=>true|.ifc,.ifc=>true|.sl r,.sl r'=>RT.beq r r'|.slf r,.slf r'=>RT.beq r r'|_,_=>false
def RT.beq:RT->RT->Bool
 |.one t,.one t'=>CT.beq t t'|.cons t r,.cons t' r'=>CT.beq t t'&&RT.beq r r'|_,_=>false
end
mutual
theorem CT.beq_eq:∀ {a b:CT},CT.beq a b=true->a=b
 |.int k,.int k',h=>by simp only[CT.beq,Ay]at h;rw[h]
 |.bool,.bool,_=>rfl
 |.str,.str,_=>rfl
 |.ifc,.ifc,_=>rfl
 |.sl r,.sl r',h=>by rw[RT.beq_eq (a:=r) (b:=r') h]
 |.slf r,.slf r',h=>by rw[RT.beq_eq (a:=r) (b:=r') h]
 |.int _,.bool,h|.int _,.str,h|.int _,.ifc,h|.int _,.sl _,h|.int _,.slf _,h=>by cases h
 |.bool,.int _,h|.bool,.str,h|.bool,.ifc,h|.bool,.sl _,h|.bool,.slf _,h=>by cases h
 |.str,.int _,h|.str,.bool,h|.str,.ifc,h|.str,.sl _,h|.str,.slf _,h=>by cases h
 |.ifc,.int _,h|.ifc,.bool,h|.ifc,.str,h|.ifc,.sl _,h|.ifc,.slf _,h=>by cases h
 |.sl _,.int _,h|.sl _,.bool,h|.sl _,.str,h|.sl _,.ifc,h|.sl _,.slf _,h=>by cases h
 |.slf _,.int _,h|.slf _,.bool,h|.slf _,.str,h|.slf _,.ifc,h|.slf _,.sl _,h=>by cases h
theorem RT.beq_eq:∀ {a b:RT},RT.beq a b=true->a=b
 |.one t,.one t',h=>by rw[CT.beq_eq (a:=t) (b:=t') h]
 | .cons t r,.cons t' r',h=>by
   simp only[RT.beq,Aj]at h;rw[CT.beq_eq h.1,RT.beq_eq h.2]
 |.one _,.cons _ _,h=>by cases h
 |.cons _ _,.one _,h=>by cases h
end
def Io{r' r:RT}(l:List r'.D):Option (List r.D):=if h:RT.beq r' r=true then some ((congrArg (λx:RT=>List x.D) (RT.beq_eq h)).mp l)else none
inductive BX where
 |lit (b:Bool)|dyn (b:Bool)
def BX.b:BX->Bool
 |.lit b=>b|.dyn b=>b
inductive DV where
 |any|undef|bool (b:BX)|int (k:IntKind) (n:Int)|str (s:List UInt8)|ifc (b:Bool)|nil (q:Ql)|sl (q:Ql) (r:RT) (l:List r.D)|ep (q:Ql) (r:RT) (l:List r.D) (j o:Nat)|box (i o:Nat)|ptr (i o:Nat)|agg (cs:List DV)|f8 (vs:List DV)
 deriving Inhabited
mutual
def CT.enc:(t:CT)->t.D->PV
 |.int k,n=>.fl (.int k n)|.bool,b=>.fl (.bool b)|.str,s=>.fl (.str s)|.ifc,b=>.fl (.ifc b)|.sl r,l=>.sl .own (l.map (RT.enc r))|.slf r,l=>.sl .Z_ (l.map (RT.enc r))
def RT.enc:(r:RT)->r.D->List PV
 |.one t,x=>[CT.enc t x]|.cons t r,x=>CT.enc t x.1::RT.enc r x.2
end
mutual
def DV.enc:DV->PV
 |.any=>.fl .undef|.undef=>.fl .undef|.bool b=>.fl (.bool b.b)|.int k n=>.fl (.int k n)|.str s=>.fl (.str s)|.ifc b=>.fl (.ifc b)|.nil q=>.sl q []|.sl q r l=>.sl q (l.map r.enc)|.ep q r l j o=>.ep q (l.map r.enc) j o|.box i o=>.box i o|.ptr i o=>.ptr i o|.agg cs=>.agg (DV.d8 cs)|.f8 vs=>.f8 (DV.d8 vs)
def DV.d8:List DV->List PV
 |[]=>[]|v::r=>v.enc::DV.d8 r
end
def CT.dv(q:Ql):(t:CT)->t.D->DV
 |.int k,n=>.int k n|.bool,b=>.bool (.dyn b)|.str,s=>.str s|.ifc,b=>.ifc b|.sl r,l=>.sl q r l|.slf r,l=>.sl .Z_ r l
def RT.dv(q:Ql):(r:RT)->r.D->List DV
 |.one t,x=>[CT.dv q t x]|.cons t r,x=>CT.dv q t x.1::RT.dv q r x.2
def CT.of:(t:CT)->DV->Option t.D
 |.int k,.int k' n=>if k=k' then some n else none|.bool,.bool b=>some b.b|.str,.str s=>some s|.ifc,.ifc b=>some b|.sl r,.nil .own=>some ([]:List r.D)|.sl r,.sl .own r' l=>Io (r':=r') (r:=r) l|.slf r,.nil .Z_=>some ([]:List r.D)|.slf r,.sl .Z_ r' l=>Io (r':=r') (r:=r) l|_,_=>none
def RT.of:(r:RT)->List DV->Option r.D
 |.one t,[v]=>t.of v| .cons t r,v::vs=>(match t.of v,r.of vs with
   |some x,some y=>some (x,y)
   |_,_=>none)
 |_,_=>none
def CT.ofA:(t:CT)->DV->Option t.D
 |.int k,.int k' n=>if k=k' then some n else none|.bool,.bool b=>some b.b|.str,.str s=>some s|.ifc,.ifc b=>some b|.sl r,.nil _=>some ([]:List r.D)|.sl r,.sl _ r' l=>Io (r':=r') (r:=r) l|.slf r,.nil _=>some ([]:List r.D)|.slf r,.sl _ r' l=>Io (r':=r') (r:=r) l|_,_=>none
def RT.ofA:(r:RT)->List DV->Option r.D
 |.one t,[v]=>t.ofA v| .cons t r,v::vs=>(match t.ofA v,r.ofA vs with
   |some x,some y=>some (x,y)
   |_,_=>none)
 |_,_=>none
def DV.ty:DV->Option CT
 |.int k _=>some (.int k)|.bool _=>some .bool|.str _=>some .str|.ifc _=>some .ifc|.sl _ r _=>some (.sl r)|_=>none
def gz:List DV->Option RT
 |[]=>none|[v]=>v.ty.map .one| v::r=>(match v.ty,gz r with
   |some t,some r=>some (.cons t r)
   |_,_=>none)
mutual
def CT.pl:CT->Bool
 |.sl r=>r.pl|.slf _=>false|_=>true
def RT.pl:RT->Bool
 |.one t=>t.pl|.cons t r=>t.pl&&r.pl
end
mutual
def CT.nrm:CT->CT
 |.sl r=>.sl r.nrm|.slf r=>.sl r.nrm|t=>t
def RT.nrm:RT->RT
 |.one t=>.one t.nrm|.cons t r=>.cons t.nrm r.nrm
end
mutual
theorem CT.D_nrm:∀t:CT,t.nrm.D=t.D
 |.int _|.bool|.str|.ifc=>rfl
 |.sl r=>congrArg List (RT.D_nrm r)
 |.slf r=>congrArg List (RT.D_nrm r)
theorem RT.D_nrm:∀r:RT,r.nrm.D=r.D
 |.one t=>CT.D_nrm t
 | .cons t r=>by
   show (t.nrm.D×r.nrm.D)=(t.D×r.D);rw[CT.D_nrm t,RT.D_nrm r]
end
def Zr(r:RT)(l:List r.D):List r.nrm.D:=(congrArg List (RT.D_nrm r).symm).mp l
def DV.nrm1:DV->DV
 |.sl .Z_ r l=>if r.pl then .sl .Z_ r l else .sl .Z_ r.nrm (Zr r l)|v=>v
def DV.nrmA:List DV->List DV
 |[]=>[]|v::r=>v.nrm1::DV.nrmA r
def DV.nrm:DV->DV
 |.agg cs=>.agg (DV.nrmA cs)|v=>v.nrm1
def DV.nrmV:List DV->List DV
 |[]=>[]|v::r=>v.nrm::DV.nrmV r
def DV.cells:DV->List DV
 |.agg cs=>cs|v=>[v]
def Ql.own':Ql->Bool
 |.own|.i5 _=>true|_=>false
def Ql.bor' (hd:Hd):Ql->Bool
 |.i6 h _ _=>h == hd|.pre h _=>h == hd|_=>false
mutual
def DV.own:DV->Bool
 |.nil q=>q.own'|.sl q _ _=>q.own'|.agg cs=>DV.ownL cs|.f8 vs=>DV.ownL vs|_=>false
def DV.ownL:List DV->Bool
 |[]=>false|v::r=>v.own||DV.ownL r
end
mutual
def DV.i6(hd:Hd):DV->Bool
 |.nil q=>q.bor' hd|.sl q _ _=>q.bor' hd|.ep q _ _ _ _=>q.bor' hd|.agg cs=>DV.borL hd cs|.f8 vs=>DV.borL hd vs|_=>false
def DV.borL(hd:Hd):List DV->Bool
 |[]=>false|v::r=>v.i6 hd||DV.borL hd r
end
mutual
def DV.hold:DV->Bool
 |.nil q=>(match q with|.Z_=>false|_=>true)
 |.sl q _ _=>(match q with|.Z_=>false|_=>true)
 |.ep q _ _ _ _=>(match q with|.Z_=>false|_=>true)
 |.agg cs=>DV.holdL cs|.f8 vs=>DV.holdL vs|_=>false
def DV.holdL:List DV->Bool
 |[]=>false|v::r=>v.hold||DV.holdL r
end
mutual
def DV.fz:DV->DV
 |.nil _=>.nil .Z_|.sl _ r l=>.sl .Z_ r l|.ep _ r l j o=>.ep .Z_ r l j o|.agg cs=>.agg (DV.fzL cs)|.f8 vs=>.f8 (DV.fzL vs)|v=>v
def DV.fzL:List DV->List DV
 |[]=>[]|v::r=>v.fz::DV.fzL r
end
def Ql.detop:Ql->Ql
 |.i6 h p _=>.i6 h p false|.pre h p=>.i6 h p false|q=>q
mutual
def DV.detop:DV->DV
 |.nil q=>.nil q.detop|.sl q r l=>.sl q.detop r l|.ep q r l j o=>.ep q.detop r l j o|.agg cs=>.agg (DV.detopL cs)|.f8 vs=>.f8 (DV.detopL vs)|v=>v
def DV.detopL:List DV->List DV
 |[]=>[]|v::r=>v.detop::DV.detopL r
end
mutual
def DV.q_:DV->Bool
 |.ptr _ _=>true|.agg cs=>DV.hasPtrL cs|.f8 vs=>DV.hasPtrL vs|_=>false
def DV.hasPtrL:List DV->Bool
 |[]=>false|v::r=>v.q_||DV.hasPtrL r
end
mutual
def DV.deep:DV->Bool
 |.undef|.bool _|.int _ _|.str _|.ifc _=>true|.nil q=>q.own'|.sl q r _=>q.own'&&r.pl|.agg cs=>DV.deepL cs|.f8 vs=>DV.deepL vs|.ptr _ _=>true|_=>false
def DV.deepL:List DV->Bool
 |[]=>true|v::r=>v.deep&&DV.deepL r
end
def DV.cell:DV->Bool
 |.bool _|.int _ _|.str _|.ifc _=>true|.nil q=>(match q with|.own|.Z_|.i5 _=>true|_=>false)
 |.sl q _ _=>(match q with|.own|.Z_|.i5 _=>true|_=>false)
 |_=>false
def D3:List DV->Bool
 |[]=>true|v::r=>v.cell&&D3 r
def DV.argc:DV->Bool
 |.bool _|.int _ _|.str _|.ifc _|.nil _|.sl _ _ _|.ptr _ _=>true|_=>false
def Zb:List DV->Bool
 |[]=>true|v::r=>v.argc&&Zb r
def DV.argok:DV->Bool
 |.agg cs=>Zb cs|v=>v.argc
def Js:List DV->Bool
 |[]=>true|v::r=>v.argok&&Js r
def DV.retc:DV->Bool
 |.ptr _ _=>true|v=>v.cell
def Kl:List DV->Bool
 |[]=>true|v::r=>v.retc&&Kl r
def DV.retok:DV->Bool
 |.agg cs=>Kl cs|v=>v.retc
def CT.flat:CT->Bool
 |.sl _=>false|.slf _=>false|_=>true
def RT.flat:RT->Bool
 |.one t=>t.flat|.cons t r=>t.flat&&r.flat
structure DC where
 d:Bool
 v:DV
structure DS where
 sl:List DC
 bx:List (List DC)
 hp:List (List DC)
def Bu:List DC->Nat->DV
 |[],_=>.any|x::_,0=>x.v|_::r,n+1=>Bu r n
def DM:List DC->Nat->DV->List DC
 |[],_,_=>[]|_::r,0,v=>⟨true,v⟩::r|x::r,n+1,v=>x::DM r n v
def B1:List (List DC)->Nat->List DC
 |[],_=>[]|x::_,0=>x|_::r,n+1=>B1 r n
def Fk:List (List DC)->Nat->List DC->List (List DC)
 |[],_,_=>[]|_::r,0,v=>v::r|x::r,n+1,v=>x::Fk r n v
def J8:List DC->Nat->List DV->List DC
 |cs,_,[]=>cs|[],_,_::_=>[]|_::r,0,v::vs=>⟨true,v⟩::J8 r 0 vs|c::r,n+1,v::vs=>c::J8 r n (v::vs)
def Nf:List DV->Nat->List DV->List DV
 |cs,_,[]=>cs|[],_,_::_=>[]|_::r,0,v::vs=>v::Nf r 0 vs|c::r,n+1,v::vs=>c::Nf r n (v::vs)
def HF:List DV->Nat->DV
 |[],_=>.any|x::_,0=>x|_::r,n+1=>HF r n
def RE:List DV->Nat->DV->List DV
 |[],_,_=>[]|_::r,0,v=>v::r|x::r,n+1,v=>x::RE r n v
def Cp:List DV->Nat->Nat->List DV
 |_,0,0=>[]|[],_,_=>[]|c::r,0,n+1=>c::Cp r 0 n|_::r,o+1,n=>Cp r o n
def Ct:List DC->List DV
 |[]=>[]|c::r=>c.v::Ct r
def news:List DV->List DC
 |[]=>[]|v::r=>⟨true,v⟩::news r
def Dv(hd:Hd):List DC->List DC
 |[]=>[]|c::r=>(if c.v.i6 hd then ⟨true,.any⟩else c)::Dv hd r
def DV.isBox(i:Nat):DV->Bool
 |.box j _=>i == j|_=>false
def Tm(i:Nat):List DC->List DC
 |[]=>[]|c::r=>(if c.v.isBox i then ⟨true,.any⟩else c)::Tm i r
def Y4(live:List Nat):Nat->List DC->List DC
 |_,[]=>[]|n,c::r=>(if live.contains n then c else ⟨true,.any⟩)::Y4 live (n+1) r
def clean:List DC->List DC
 |[]=>[]|c::r=>⟨false,c.v⟩::clean r
def Rg:List (List DC)->List (List DC)
 |[]=>[]|b::r=>clean b::Rg r
def DS.clean(st:DS):DS:=⟨Go.Ag.clean st.sl,Rg st.bx,Rg st.hp⟩
def gh:List DC->List PV
 |[]=>[]|c::r=>c.v.enc::gh r
def gu:List (List DC)->List (List PV)
 |[]=>[]|b::r=>gh b::gu r
def DS.enc(st:DS):PS:=⟨gh st.sl,gu st.bx,gu st.hp⟩
inductive PX where
 |tt|ff|p (h:Prop)|and (a b:PX)|ite (c:Bool) (a b:PX)
def PX.den:PX->Prop
 |.tt=>True|.ff=>False|.p h=>h|.and a b=>a.den/\b.den|.ite c a b=>(c=true->a.den)/\(c=false->b.den)
def PX.land:PX->PX->PX
 |.tt,b=>b|.ff,_=>.ff|a,.tt=>a|a,b=>.and a b
def PX.if' (c:Bool):PX->PX->PX
 |.tt,.tt=>.tt|a,b=>.ite c a b
def Ku:V->DV
 |.X_=>.nil .own|.f8 []=>.f8 []|.bool b=>.bool (.lit b)|.int k n=>.int k n|.str s=>.str s|.ifc b=>.ifc b|_=>.undef
def HG:List V->List DV
 |[]=>[]|v::r=>Ku v::HG r
def T_.dev(s:List DC):T_->DV
 |.t n=>Bu s n|.c v=>Ku v
end
abbrev Kx:=List UInt8
abbrev BO:=List Int
abbrev Au:=Int×Int
abbrev NF:=Bool×Int
abbrev DD:=Int×Au
abbrev DN:=BO×Int
abbrev BH:=Int×BO
abbrev Pm:=List Au
abbrev CF:=Int×DD
abbrev Zn:=BO×BO
abbrev Cn:=List DD
abbrev Y6:=Int×BH
abbrev Nz:=BO×Au
abbrev BQ:=List BH
abbrev Dk:=Int×CF
abbrev DA:=List CF
abbrev CJ:=List Cn
abbrev JF:=Pm×Int
abbrev Bj:=List Dk
abbrev Cz:=List DA
abbrev Mj:=Cn×Int
abbrev rW:=Pm×Au
abbrev sk:=BQ×Int
abbrev L9:=DA×Int
abbrev HD:=CJ×Int
abbrev rX:=DD×DD
abbrev Ph:=BH×BH
abbrev D5:=Bj×Int
abbrev YZ:=Int×Bj
abbrev Mh:=Cz×Int
abbrev Ca:=Int×Cz
abbrev Uv:=BH×Pm
abbrev fS:=CF×CF
abbrev Pc:=BH×BQ
abbrev Y5:=Ca×Int
abbrev r9:=Cn×Cn
abbrev sr:=Bj×DD
abbrev rJ:=BQ×BQ
abbrev sq:=Dk×Dk
abbrev Kk:=Ca×Au
abbrev su:=DA×DA
abbrev rH:=CJ×CJ
abbrev Ki:=Bj×Cn
abbrev Ge:=Bj×Bj
abbrev sm:=Cz×Cz
abbrev ss:=Ca×Ca
abbrev Bw:=Int×Cz×CJ×Int×Bj×Int×Bool
abbrev Gg:=Bw×Int
abbrev Fj:=Bw×Int×Bool
abbrev Ip:=Bw×BO
abbrev Nv:=BQ×Int×Bw
abbrev Rv:=Bw×fS
abbrev sy:=Bw×Bw
abbrev Ab:V:=.int .i64 0
abbrev Zlu:V:=.int .i64 1
abbrev CB:V:=.bool false
abbrev Zlw:V:=.bool true
abbrev AQ:T_:=.c Ab
abbrev AD:T_:=.c Zlu
abbrev Ar:T_:=.c CB
abbrev AU:T_:=.c Zlw
abbrev AF:Ql×CT:=(.own,.int .i64)
abbrev Av:Ql×CT:=(.Z_,.int .i64)
noncomputable section
mutual
def DV.ok:DV->Bool
 |.any=>false|.agg cs=>DV.okL cs|.f8 vs=>DV.okL vs|_=>true
def DV.okL:List DV->Bool
 |[]=>true|v::r=>v.ok&&DV.okL r
end
def DS.put(st:DS)(d:Option Nat)(v:DV):DS:=
 match d with
 |none=>st|some d=>if v.own then { st with sl:=Dv (.s d) (DM st.sl d v) }else { st with sl:=DM st.sl d v }
def UI(v:DV)(n:Nat)(st:DS):DV×DS:=if v.own then (if v.i6 (.s n)then (.any,st)else (v,{ st with sl:=Dv (.s n) (DM st.sl n .any) }))else (v,st)
def Bx(x:T_)(st:DS):DV×DS:=match x with
 |.c v=>(Ku v,st)|.t n=>UI (Bu st.sl n) n st
def UO(v:DV)(n:Nat)(st:DS):DV×DS:=if v.own then (if v.retok then (v.fz,{ st with sl:=Dv (.s n) (DM st.sl n v.fz) })else (.any,st))else (v,st)
def FE(x:T_)(st:DS):DV×DS:=match x with
 |.c v=>(Ku v,st)|.t n=>UO (Bu st.sl n) n st
def DV.S_:DV->List Nat->DV
 |.agg cs,[c]=>HF cs c|.agg _,_=>.any|.f8 vs,[i,c]=>HF (HF vs i).cells c|.f8 _,_=>.any|v,[0]=>v|_,_=>.any
def DV.setc:DV->List Nat->DV->DV
 |.agg cs,[c],w=>.agg (RE cs c w)|.agg cs,_,_=>.agg cs|.f8 vs,_,_=>.f8 vs|_,[0],w=>w|v,_,_=>v
def Ck(st:DS):Hd->List Nat->DV
 |.s t,p=>(Bu st.sl t).S_ p|.b i,[c]=>Bu (B1 st.bx i) c|.h i,[c]=>Bu (B1 st.hp i) c|_,_=>.any
def Ir(st:DS)(v:DV):Hd->List Nat->DS
 |.s t,p=>{ st with sl:=Dv (.s t) (DM st.sl t ((Bu st.sl t).setc p v)) }|.b i,[c]=>{ st with sl:=Dv (.b i) st.sl,bx:=Fk st.bx i (DM (B1 st.bx i) c v) }|.h i,[c]=>{ st with sl:=Dv (.h i) st.sl,hp:=Fk st.hp i (DM (B1 st.hp i) c v) }|_,_=>st
def Ql.brw(hd:Hd)(p:List Nat):Ql->Ql
 |.own=>.i6 hd p true|.i5 _=>.pre hd p|q=>q
def gd(hd:Hd)(p:List Nat):DV->DV
 |.sl q r l=>.sl (q.brw hd p) r l|.nil q=>.nil (q.brw hd p)|v=>v
def Kr(hd:Hd):Nat->List DV->List DV
 |_,[]=>[]|c,v::r=>gd hd [c] v::Kr hd (c+1) r
def gb(hd:Hd):DV->DV
 |.agg cs=>.agg (Kr hd 0 cs)|.f8 vs=>if DV.ownL vs then .undef else .f8 vs|v=>gd hd [0] v
def L5(x:T_)(st:DS):DV×DS:=match x with
 |.c v=>(Ku v,st)|.t n=>(gb (.s n) (Bu st.sl n),st)
def Px:Ql->Option Ql
 |.Z_=>some .Z_|.i6 hd _ _=>some (.i6 hd [] false)|.pre hd _=>some (.i6 hd [] false)|_=>none
def Ru:List DV->List DV
 |[]=>[]|v::r=>(if v.own then .any else v)::Ru r
def Ga(n:Option Nat)(cs:List DV):Option DV:=
 match n,cs with
 |some _,cs=>some (.agg cs)|none,[v]=>some v|none,_=>none
def O3(d:Nat):Option DV->Option (PX×Nat)
 |none=>some (.tt,d)|some (.int _ i)=>some (.p (0<=i),R_ i)|some _=>none
def Ks:List DV->List (Nat×Nat×T_)->DS->Option (List DV×DS)
 |cs,[],st=>some (cs,st)| cs,(off,size,x)::r,st=>
   if (Bx x st).1.cells.length == size&&Nat.ble (off+size) cs.length&&D3 (Bx x st).1.cells then Ks (Nf cs off (Bx x st).1.cells) r (Bx x st).2 else none
abbrev DO:=Option (PX×DV)
def GS(v:DV):DO:=some (.tt,v)
def dI(k:IntKind)(n:Int):DO:=some (.tt,.int k n)
def dB(b:Bool):DO:=some (.tt,.bool (.dyn b))
def Yi(op:BinOp)(k:IntKind)(a b:Int):DO:=
 match op with
 |.add=>dI k (V_ k a b)|.sub=>dI k (iSub k a b)|.mul=>dI k (iMul k a b)|.quo=>some (.p (b≠0),.int k (iQuo k a b))|.rem=>some (.p (b≠0),.int k (iRem a b))|.and=>dI k (iAnd k a b)|.or=>dI k (iOr k a b)|.xor=>dI k (iXor k a b)|.andNot=>dI k (iAndNot k a b)|.eql=>dB (g_ a b)|.neq=>dB (j_ a b)|.lss=>dB (b_ a b)|.leq=>dB (iLe a b)|.gtr=>dB (iGt a b)|.geq=>dB (iGe a b)|_=>none
def YQ(op:BinOp)(k:IntKind)(a b:Int):DO:=
 match op with
 |.shl=>some (.p (0<=b),.int k (iShl k a b))|.shr=>some (.p (0<=b),.int k (iShr k a b))|_=>none
def IntKind.same(k b:IntKind):Bool:=decide (k=b)
def RD(op:BinOp)(x y:DV):DO:=
 match x,y with
 | .int k a,.int k' b=>(match op with
   |.shl=>YQ .shl k a b
   |.shr=>YQ .shr k a b
   |op=>if IntKind.same k k' then Yi op k a b else none)
 | .str a,.str b=>(match op with
   |.add=>some (.p (a.length+b.length<=9223372036854775807),.str (sAdd a b))
   |.eql=>dB (sEq a b)
   |.neq=>dB (sNe a b)
   |_=>none)
 |_,_=>none
def BX.not:BX->BX
 |.lit b=>.lit (!b)|.dyn b=>.dyn (U' b)
def BX.eq:BX->BX->BX
 |.lit a,.lit b=>.lit (a == b)|.lit true,.dyn b=>.dyn b|.lit false,.dyn b=>.dyn (U' b)|.dyn a,.lit true=>.dyn a|.dyn a,.lit false=>.dyn (U' a)|.dyn a,.dyn b=>.dyn (bIff a b)
def Zi(g:Bool):DV->DV->DO
 |.bool a,.bool b=>GS (.bool (if g then (a.eq b).not else a.eq b))|_,_=>none
def gm(b:Bool):DV->DO
 |.ifc a=>dB (if b then U' a else a)|_=>none
def MZ:List DV->List DV->Option BX
 |[],[]=>some (.lit true)|.int k a::x,.int k' b::y=>if IntKind.same k k' then (match x,y with
  |[],[]=>some (.dyn (g_ a b))
  |x,y=>(MZ x y).map λt=>.dyn (W_ (g_ a b) t.b))else none
 |_,_=>none
def Zl(n:Nat)(g:Bool):DV->DV->DO
 | .agg a,.agg b=>if a.length == n&&b.length == n then (match MZ a b with
   |some t=>GS (.bool (if g then t.not else t))
   |none=>none)else none
 |_,_=>none
def gB(op:UnOp)(x:DV):DO:=
 match op,x with
 |.not,.bool b=>GS (.bool b.not)|.neg,.int k n=>dI k (iNeg k n)|_,_=>none
def fT(k:IntKind):DV->DO
 |.int _ n=>dI k (iConv k n)|_=>none
def rY(_:DV):DO:=none
def sB(x:T_)(z:Bool)(q:Ql):Option Ql:=FK x (if z then 0 else 1) q
def eT(w:Nat)(x:T_)(i hi:Option DV):DV->DO
 | .sl q r l=>(match O3 0 i,O3 (lN l) hi with
   | some (g,a),some (g',b)=>if r.w == w then (match sB x i.isNone q with
     |some q'=>some ((g.land g').land (.p (a<=b/\b<=l.length/\0<l.length)),.sl q' r (lSub l a b))
     |none=>none)else none
   |_,_=>none)
 |_=>none
def qg(_ _:Option DV)(_:DV):DO:=none
def fE:DV->DO
 |.box i o=>GS (.box i o)|.ptr i o=>GS (.ptr i o)|.ep q r l j o=>GS (.ep q r l j o)|_=>none
def ed(off:Nat):DV->DO
 |.box i o=>GS (.box i (o+off))|.ptr i o=>GS (.ptr i (o+off))|.ep q r l j o=>GS (.ep q r l j (o+off))|_=>none
def fD(off:Nat)(n:Option Nat)(x:T_):DV->DO
 | .agg cs=>(match x with
   |.t t=>if Nat.ble (off+n.getD 1) cs.length&&DV.okL (Cp cs off (n.getD 1))then (Ga n (Kr (.s t) off (Cp cs off (n.getD 1)))).map λv=>(.tt,v)else none
   |.c _=>none)
 |_=>none
def TN(w:Nat)(x:T_):DV->DV->DO
 | .sl q r l,.int _ j=>if r.w == w then (match FJ x q with
   |some q'=>some (.p (0<=j/\j<l.length),.ep q' r l (R_ j) 0)
   |none=>none)else none
 |.nil _,.int _ _=>none|_,_=>none
def qY(_ _:DV):DO:=none
def gf:DV->DO
 |.sl _ _ l=>dI .i64 (V' l)|.nil _=>dI .i64 0|_=>none
def rT(_:DV):DO:=none
def gi:DV->DV->DO
 |.int .i64 a,.int .i64 b=>dI .i64 (iMin a b)|_,_=>none
def gr:DV->DV->DO
 |.int .i64 a,.int .i64 b=>dI .i64 (iMax a b)|_,_=>none
abbrev En:=Option (PX×DV×DS)
def Nl(m:Bool)(i:Nat)(n:Option Nat)(a:DV)(st:DS):En:=
 match a with
 | .box j o=>
   let cs:=Cp (Ct (B1 st.bx i)) o (n.getD 1)
   if i == j&&Nat.ble (o+n.getD 1) (B1 st.bx i).length&&DV.okL cs then
    if m then (Ga n cs).map λv=>(.tt,v,{ st with sl:=Dv (.b i) st.sl,bx:=Fk st.bx i (J8 (B1 st.bx i) o (Ru cs)) })
    else (Ga n (Kr (.b i) o cs)).map λv=>(.tt,v,st)
   else none
 |_=>none
def LY(m:Bool)(n:Option Nat)(a:DV)(st:DS):En:=
 match a with
 | .ptr i o=>
   let cs:=Cp (Ct (B1 st.hp i)) o (n.getD 1)
   if Nat.blt i st.hp.length&&Nat.ble (o+n.getD 1) (B1 st.hp i).length&&DV.okL cs then
    if m then (Ga n cs).map λv=>(.tt,v,{ st with sl:=Dv (.h i) st.sl,hp:=Fk st.hp i (J8 (B1 st.hp i) o (Ru cs)) })
    else (Ga n (Kr (.h i) o cs)).map λv=>(.tt,v,st)
   else none
 | .ep q r l j o=>(match Px q with
   |some q'=>if Nat.ble (o+n.getD 1) r.w then (Ga n (Cp (r.dv q' (So l j r.dflt)) o (n.getD 1))).map λv=>(.p (j<l.length),v,st)else none
   |none=>none)
 |_=>none
def TR(i n:Nat)(a x:T_)(g:DS):En:=
 match Bx x g with
 | (v, st)=>match a.dev g.sl with
   |.box j o=>if i == j&&Nat.blt i st.bx.length&&v.cells.length == n&&Nat.ble (o+n) (B1 st.bx i).length&&D3 v.cells then
    some (.tt,.undef,{ st with sl:=if (!DV.okL (Cp (Ct (B1 st.bx i)) o n))||DV.ownL (Cp (Ct (B1 st.bx i)) o n)||v.own then Dv (.b i) st.sl else st.sl,bx:=Fk st.bx i (J8 (B1 st.bx i) o v.cells) })else none
   |_=>none
def TO(n:Nat)(a x:T_)(b:DS):En:=
 match Bx x b with
 | (v, st)=>match a.dev st.sl with
   |.ptr i o=>if Nat.blt i st.hp.length&&v.cells.length == n&&Nat.ble (o+n) (B1 st.hp i).length&&D3 v.cells then
    some (.tt,.undef,{ st with sl:=if (!DV.okL (Cp (Ct (B1 st.hp i)) o n))||DV.ownL (Cp (Ct (B1 st.hp i)) o n)||v.own then Dv (.h i) st.sl else st.sl,hp:=Fk st.hp i (J8 (B1 st.hp i) o v.cells) })else none
   | .ep (.i6 hd [p] true) _ _ j o=>(match Ck st hd [p]with
     | .sl .own r l=>if v.cells.length == n&&Nat.ble (o+n) r.w&&D3 v.cells then (match r.of (Nf (r.dv .own (So l j r.dflt)) o v.cells)with
       |some y=>some (.p (j<l.length),.undef,Ir st (.sl .own r (lSet l j y)) hd [p])
       |none=>none)else none
     |_=>none)
   |_=>none
def OZ(_:Bool)(_:Option Nat)(_:DV)(_:DS):Option En:=none
def DV.nestX(i c:Nat):DV->Bool
 |.ep (.i6 (.b i') [c'] true) _ _ _ _=>i == i'&&c == c'|_=>false
def DV.nest(_:DV):Option (Hd×Nat×Nat×Nat×Nat):=none
def dH(_:Nat)(_:Hd)(_ _ _ _:Nat)(_:DV)(_:DS):En:=none
inductive DSrc where
 |nil|sl (r:RT) (l:List r.D)
def DSrc.w:DSrc->Nat->Bool
 |.nil,_=>true|.sl r _,w=>r.w == w
def DSrc.to(r:RT):DSrc->Option (List r.D)
 |.nil=>some []|.sl _ l=>Io l
def KA(w:Nat)(y:T_)(st:DS):Option (DSrc×DS):=
 match y.dev st.sl with
 |.str s=>if w == 1 then some (.sl (.one (.int .u8)) (sRow s),st)else none|.sl .own r l=>if r.w == w then some (.sl r l,(Bx y st).2)else none|.sl (.i5 _) _ _=>none|.sl _ r l=>if r.w == w&&r.flat then some (.sl r l,st)else none|.nil .own=>some (.nil,(Bx y st).2)|.nil _=>some (.nil,st)|_=>none
def NI(w:Nat)(x:T_)(b:DSrc)(st:DS):En:=
 if !(Nat.blt 0 w&&b.w w)then none else
 match x.dev st.sl with
 | .nil .own=>(match b with
   |.nil=>some (.tt,.nil .own,(Bx x st).2)
   |.sl r l=>some (.p (AE (l.length*w)),.sl .own r l,(Bx x st).2))
 | .sl .own r l=>if r.w == w then (match b.to r with
   |some n=>some (.p (AE ((l.length+n.length)*w)),.sl .own r (i9 l n),(Bx x st).2)
   |none=>none)else none
 | .sl (.i6 hd [c] true) r l=>(match Ck st hd [c]with
   | .sl .own rh lh=>if rh.w == w then (match b.to rh with
     |some n=>some (.p (l.length=lh.length/\AE ((lh.length+n.length)*w)),.sl .own rh (i9 lh n),Ir st .undef hd [c])
     |none=>none)else none
   |_=>none)
 | .nil (.i6 hd [c] true)=>(match Ck st hd [c]with
   | .nil .own=>(match b with
     |.nil=>some (.tt,.nil .own,Ir st .undef hd [c])
     |.sl r l=>some (.p (AE (l.length*w)),.sl .own r l,Ir st .undef hd [c]))
   |_=>none)
 | .sl (.pre hd [c]) r l=>(match Ck st hd [c]with
   | .sl .own rh lh=>if rh.w == w then (match b.to rh with
     |some n=>some (.p (0<lh.length/\l.length<=lh.length/\0<l.length+n.length/\AE ((l.length+n.length)*w)),.sl .own rh (i9 (lTake lh (lN l)) n),Ir st .undef hd [c])
     |none=>none)else none
   |_=>none)
 |_=>none
def Nu(w:Nat)(b:DSrc)(st:DS):En:=
 match b with
 |.nil=>some (.tt,.nil (.i5 w),st)|.sl r l=>some (.p (AE (l.length*w)),.sl (.i5 w) r l,st)
def UC(w:Nat)(x:T_)(b:DSrc)(st:DS):En:=
 if !(Nat.blt 0 w&&b.w w)then none else
 match x.dev st.sl with
 |.nil .own=>Nu w b (Bx x st).2|.nil (.i5 w')=>if w' == w then Nu w b (Bx x st).2 else none| .sl .own r l=>if r.w == w then (match b.to r with
   |some n=>some (.p (AE ((l.length+n.length)*w)),.sl (.i5 w) r (i9 l n),(Bx x st).2)
   |none=>none)else none
 | .sl (.i5 w') r l=>if w' == w&&r.w == w then (match b.to r with
   |some n=>some (.p (AE ((l.length+n.length)*w)),.sl (.i5 w) r (i9 l n),(Bx x st).2)
   |none=>none)else none
 | .sl (.pre hd [c]) r l=>(match Ck st hd [c]with
   | .sl .own rh lh=>if rh.w == w then (match b.to rh with
     |some n=>some (.p (0<lh.length/\l.length<=lh.length/\AE ((l.length+n.length)*w)),.sl (.i5 w) rh (i9 (lTake lh (lN l)) n),Ir st .undef hd [c])
     |none=>none)else none
   | .sl (.i5 w') rh lh=>if w' == w&&rh.w == w then (match b.to rh with
     |some n=>some (.p (0<lh.length/\l.length<=lh.length/\AE ((l.length+n.length)*w)),.sl (.i5 w) rh (i9 (lTake lh (lN l)) n),Ir st .undef hd [c])
     |none=>none)else none
   |_=>none)
 |_=>none
def UN(w:Nat):DV->Option DV
 |.nil .own=>some (.nil (.i5 w))|.nil (.i5 w')=>if w == 0||w' == w then some (.nil (.i5 w))else none|.sl .own r l=>if w == 0||r.w == w then some (.sl (.i5 w) r l)else none|.sl (.i5 w') r l=>if w == 0||w' == w then some (.sl (.i5 w) r l)else none|_=>none
def Zp:List (Nat×Nat)->List DV->Option (List DV)
 |[],l=>some l| (c,w)::r,l=>match UN w (HF l c)with
   |some v=>Zp r (RE l c v)
   |none=>none
def PA(ws:List (Nat×Nat)):DV->Option DV
 |.agg l=>(Zp ws l).map .agg| .nil q=>(match ws with
   |[(0,w)]=>UN w (.nil q)
   |_=>none)
 | .sl q r l=>(match ws with
   |[(0,w)]=>UN w (.sl q r l)
   |_=>none)
 |_=>none
def Q4(r:RT)(w:Nat):Nat->List DV->Option (List r.D)
 |0,_=>some []| n+1,cs=>(match r.of (cs.take w),Q4 r w n (cs.drop w)with
   |some x,some l=>some (x::l)
   |_,_=>none)
def H8:List V->Bool
 |[]=>true|v::r=>v.flat&&H8 r
def Rr(o:p_)(e:T_->DV):DO:=
 match o with
 |.z_ x=>fE (e x)|.bin op x y=>RD op (e x) (e y)|.eqB neg x y=>Zi neg (e x) (e y)|.eqN neg x y=>(match y with|.c (.ifc true)=>gm neg (e x)|_=>none)
 |.eqA n neg x y=>Zl n neg (e x) (e y)|.un op x=>gB op (e x)|.conv k x=>fT k (e x)|.bstr x=>rY (e x)|.slice w x lo hi=>eT w x (lo.map e) (hi.map e) (e x)|.substr x lo hi=>qg (lo.map e) (hi.map e) (e x)|.f5 off a=>ed off (e a)|.field off n x=>fD off n x (e x)|.m_ w x i=>TN w x (e x) (e i)|.index x i=>qY (e x) (e i)|.len x=>gf (e x)|.lenT x=>rT (e x)|.minI x y=>gi (e x) (e y)|.maxI x y=>gr (e x) (e y)|_=>none
def BD (m:Bool)(o:p_)(ty:Option RT)(st:DS):En:=
 let e (x:T_):=x.dev st.sl
 let g (r:DV×DS):En:=if r.1.ok then some (.tt,r.1,r.2)else none
 match o with
 |.mv x=>g (if m then L5 x st else Bx x st)|.d7 i zs=>if Nat.blt i st.bx.length&&H8 zs then some (.tt,.box i 0,{ st with sl:=Dv (.b i) (Tm i st.sl),bx:=Fk st.bx i (news (HG zs)) })else none| .boxB i n x=>(match Bx x st with
   |(v,st)=>if Nat.blt i st.bx.length&&v.cells.length == n&&D3 v.cells then some (.tt,.box i 0,{ st with sl:=Dv (.b i) (Tm i st.sl),bx:=Fk st.bx i (news v.cells) })else none)
 |.allocH zs=>if H8 zs then some (.tt,.ptr st.hp.length 0,{ st with sl:=Dv (.h st.hp.length) st.sl,hp:=st.hp++[news (HG zs)] })else none| .boxH n x=>(match Bx x st with
   |(v,st)=>if v.cells.length == n&&D3 v.cells then some (.tt,.ptr st.hp.length 0,{ st with sl:=Dv (.h st.hp.length) st.sl,hp:=st.hp++[news v.cells] })else none)
 | .build zs ps=>if H8 zs then (match Ks (HG zs) ps st with
   |some (cs,st)=>some (.tt,.agg cs,st)
   |none=>none)else none
 | .mkSlice w z len=>(match e len with
   | .int .i64 n=>(match (match ty with|some r=>some r|none=>gz (HG z))with
     | some r=>(match r.of (HG z)with
       |some d=>if z.length == w&&r.w == w&&Nat.blt 0 w&&H8 z then some (.p (0<=n/\AE (n.toNat*w)),.sl .own r (lRep n d),st)else none
       |none=>none)
     |none=>none)
   |_=>none)
 | .d4 w n zs ps=>
   if n == 0 then some (.tt,(match ty with|some r=>.sl .own r []|none=>.nil .own),st)
   else if H8 zs&&zs.length == n*w&&Nat.blt 0 w then (match Ks (HG zs) ps st with
    | some (cs,st)=>(match (match ty with|some r=>some r|none=>gz (cs.take w))with
      | some r=>if r.w == w then (match Q4 r w n cs with
        |some l=>some (.tt,.sl .own r l,st)
        |none=>none)else none
      |none=>none)
    |none=>none)
   else none
 |.d6 i n a=>Nl m i n (e a) st| .g9 n a=>(match OZ m n (e a) st with
   |some r=>r
   |none=>LY m n (e a) st)
 | .loadX i c n a=>if (e a).nestX i c then (match OZ m n (e a) st with
   |some r=>r
   |none=>none)else none
 |.U_ i n a x=>TR i n a x st| .f6 n a x=>if (e a).ok then (match (e a).nest with
   |some (hd,p,k,j,o)=>dH n hd p k j o (e x) st
   |none=>TO n a x st)else none
 | .app w x y=>(match KA w y st with
   |some (new,st)=>NI w x new st
   |none=>none)
 | .appN w x y=>(match x.dev st.sl with
   | .nil .own=>(match KA w y st with
     |some (new,st)=>NI w x new st
     |none=>none)
   |_=>none)
 | .extract x i=>(match x with
   | .t t=>(match Bu st.sl t with
     |.f8 vs=>if Nat.blt i vs.length&&(HF vs i).ok then (if (HF vs i).own then (if (HF vs i).i6 (.s t)then none else some (.tt,HF vs i,{ st with sl:=Dv (.s t) (DM st.sl t (.f8 (RE vs i .undef))) }))else some (.tt,HF vs i,st))else none
     |_=>none)
   |.c _=>none)
 |.pick ..=>none|.callB ..=>none|o=>(Rr o e).map λr=>(r.1,r.2,st)
def O6(ws:List (Nat×Nat))(m:Bool)(o:p_)(ty:Option RT)(st:DS):En:=
 match o with
 | .app w x y=>(match ws with
   | [(0,w')]=>if w' == w then (match KA w y st with
     |some (new,st)=>UC w x new st
     |none=>none)else none
   |_=>none)
 | o => (match BD m o ty st with
   | some (g,v,st)=>(match PA ws v with
     |some v=>some (g,v,st)
     |none=>none)
   |none=>none)
end
noncomputable section
def Zo(c:Bool):BX->BX->BX
 |.lit true,.lit true=>.lit true|.lit false,.lit false=>.lit false|.lit true,.lit false=>.dyn c|.lit false,.lit true=>.dyn (U' c)|.lit true,.dyn y=>.dyn (t8 c y)|.lit false,.dyn y=>.dyn (W_ (U' c) y)|.dyn x,.lit true=>.dyn (t8 (U' c) x)|.dyn x,.lit false=>.dyn (W_ c x)|.dyn x,.dyn y=>.dyn (Z' c x y)
def Eh(q q':Ql):Bool:=decide (q=q')
mutual
def DK(c:Bool):DV->DV->DV
 |.undef,.undef=>.undef|.bool x,.bool y=>.bool (Zo c x y)|.int k x,.int k' y=>if IntKind.same k k' then .int k (Z' c x y)else .any|.str x,.str y=>.str (Z' c x y)|.ifc x,.ifc y=>.ifc (Z' c x y)|.nil q,.nil q'=>if Eh q q' then .nil q else .any|.nil q,.sl q' r l=>if Eh q q' then .sl q r (Z' c [] l)else .any|.sl q r l,.nil q'=>if Eh q q' then .sl q r (Z' c l [])else .any| .sl q r l,.sl q' r' l'=>if Eh q q' then (match Io (r':=r') (r:=r) l' with
   |some l'=>.sl q r (Z' c l l')
   |none=>.any)else .any
 |.box i o,.box i' o'=>if i == i'&&o == o' then .box i o else .any|.ptr i o,.ptr i' o'=>if i == i'&&o == o' then .ptr i o else .any|.agg x,.agg y=>if x.length == y.length&&DV.okL (Mk c x y)then .agg (Mk c x y)else .any|.f8 x,.f8 y=>if x.length == y.length&&DV.okL (Mk c x y)then .f8 (Mk c x y)else .any|_,_=>.any
def Mk(c:Bool):List DV->List DV->List DV
 |x::a,y::b=>DK c x y::Mk c a b|_,_=>[]
end
def Zh(c:Bool)(x y:DC):DC:=if x.d||y.d then ⟨true,DK c x.v y.v⟩else x
def Ux(c:Bool):List DC->List DC->List DC
 |x::a,y::b=>Zh c x y::Ux c a b|_,_=>[]
def Uw(c:Bool):List (List DC)->List (List DC)->List (List DC)
 |x::a,y::b=>(if x.length == y.length then Ux c x y else [])::Uw c a b|_,_=>[]
def Py(c:Bool)(x y:DS):Option DS:=if x.sl.length == y.sl.length&&x.bx.length == y.bx.length&&x.hp.length == y.hp.length then some ⟨Ux c x.sl y.sl,Uw c x.bx y.bx,Uw c x.hp y.hp⟩else none
def RH:List DC->List DC->List DC
 |x::a,y::b=>⟨x.d||y.d,y.v⟩::RH a b|_,r=>r
def UL:List (List DC)->List (List DC)->List (List DC)
 |x::a,y::b=>RH x y::UL a b|_,r=>r
def NL(x y:DS):DS:=⟨RH x.sl y.sl,UL x.bx y.bx,UL x.hp y.hp⟩
inductive DT where
 |leaf (e:AExit) (st:DS)|node (c:Bool) (a b:DT)|chk (g:PX) (t:DT)|bad
inductive NS where
 |none|some (st:DS)|fail
def DT.norm:DT->NS
 |.leaf .normal st=>.some st|.leaf _ _=>.none| .node c a b=>(match a.norm,b.norm with
   |.none,y=>y
   |x,.none=>x
   | .some x,.some y=>(match Py c x y with
     |some z=>.some z
     |none=>.fail)
   |_,_=>.fail)
 |.chk _ t=>t.norm|.bad=>.none
def DT.nn:DT->Nat
 |.leaf .normal _=>1|.node _ a b=>a.nn+b.nn|.chk _ t=>t.nn|_=>0
def DT.cont:DT->Option BX
 |.leaf .normal _=>some (.lit true)|.leaf _ _=>some (.lit false)| .node c a b=>(match a.cont,b.cont with
   |none,y=>y
   |x,none=>x
   |some x,some y=>some (Zo c x y))
 |.chk _ t=>t.cont|.bad=>none
def DT.ok:DT->PX
 |.leaf _ _=>.tt|.node c a b=>PX.if' c a.ok b.ok|.chk g t=>g.land t.ok|.bad=>.ff
def DT.nodeB(c:Bool):DT->DT->DT
 |.bad,b=>b|a,.bad=>a|a,b=>.node c a b
def DT.drop:DT->DT
 |.leaf .normal _=>.bad|.leaf e st=>.leaf e st|.node c a b=>DT.nodeB c a.drop b.drop|.chk _ t=>t.drop|.bad=>.bad
def DT.map(f:DS->DS):DT->DT
 |.leaf e st=>.leaf e (f st)|.node c a b=>.node c (a.map f) (b.map f)|.chk g t=>.chk g (t.map f)|.bad=>.bad
def DT.bind(f:DS->DT)(h:DS->DS):DT->DT
 |.leaf .normal st=>f st|.leaf e st=>.leaf e (h st)|.node c a b=>.node c (a.bind f h) (b.bind f h)|.chk g t=>.chk g (t.bind f h)|.bad=>.bad
def DT.unexit(i:Nat):DT->DT
 |.leaf (.exit j) st=>if j == i then .leaf .normal st else .leaf (.exit j) st|.leaf e st=>.leaf e st|.node c a b=>.node c (a.unexit i) (b.unexit i)|.chk g t=>.chk g (t.unexit i)|.bad=>.bad
def DT.chk':PX->DT->DT
 |.tt,t=>t|g,t=>.chk g t
def DT.then(f:DS->DT)(h:DS->DS)(t:DT):DT:=
 if Nat.ble t.nn 1 then t.bind f h
 else match t.norm with
  | .some m=>DT.chk' t.ok (match t.cont with
    |some (.dyn c)=>.node c (f m) (t.drop.map h)
    |some (.lit true)=>f m
    |_=>.bad)
  |_=>t.bind f h
section
variable {X:Type}
inductive LoopTo (c:X->Bool) (f:X->X) (p:X->Prop):X->X->Prop
 |stop {x:X}:p x->c x=false->LoopTo c f p x x|go {x y:X}:p x->c x=true->LoopTo c f p (f x) y->LoopTo c f p x y
def a_(c:X->Bool)(f:X->X)(p:X->Prop)(x:X):Prop:=∃y,LoopTo c f p x y
open Classical in
def Am(c:X->Bool)(f:X->X)(x:X):X:=if h:∃y,LoopTo c f (λ_=>True) x y then Classical.choose h else x
theorem LoopTo.fst{c:X->Bool}{f:X->X}{p q:X->Prop}{x y z:X}(h:LoopTo c f p x y)(h':LoopTo c f q x z):y=z:=by
 induction h with
 | stop _ h1=>
   cases h' with
   |stop=>rfl
   |go _ b=>rw[h1]at b;cases b
 | go _ h1 _ ih=>
   cases h' with
   |stop _ b=>rw[h1]at b;cases b
   |go _ _ g=>exact ih g
theorem LoopTo.mono{c:X->Bool}{f:X->X}{p q:X->Prop}(hp:∀x,p x->q x){x y:X}(h:LoopTo c f p x y):LoopTo c f q x y:=by
 induction h with
 |stop h0 h1=>exact .stop (hp _ h0) h1
 |go h0 h1 _ b=>exact .go (hp _ h0) h1 b
theorem LoopTo.val{c:X->Bool}{f:X->X}{p:X->Prop}{x y:X}(h:LoopTo c f p x y):Am c f x=y:=by
 have h':∃y,LoopTo c f (λ_=>True) x y:=⟨y,h.mono λ_ _=>trivial⟩;unfold Am;rw[dif_pos h'];exact(Classical.choose_spec h').fst h
theorem Ze7{c:X->Bool}{f:X->X}{x:X}(h:c x=false):Am c f x=x:=(LoopTo.stop (p:=λ_=>True) trivial h).val
theorem a_.to{c:X->Bool}{f:X->X}{p:X->Prop}{x:X}(h:a_ c f p x):LoopTo c f p x (Am c f x):=by
 obtain⟨y,h⟩:=h;rw[h.val];exact h
end
inductive Pl where
 |s (i:Nat)|b (i c:Nat)|h (i c:Nat)
inductive HT where
 |one (q:Ql) (t:CT)|agg (l:List (Ql×CT))
structure Hole where
 pl:Pl
 t:HT
def AgX:List (Ql×CT)->Type
 |[]=>Unit|[a]=>a.2.D|a::r=>a.2.D×AgX r
def HT.D:HT->Type
 |.one _ t=>t.D|.agg l=>AgX l
def IA:List Hole->Type
 |[]=>Unit|[a]=>a.t.D|a::r=>a.t.D×IA r
def DS.at(st:DS):Pl->DV
 |.s i=>Bu st.sl i|.b i c=>Bu (B1 st.bx i) c|.h i c=>Bu (B1 st.hp i) c
def DS.wr(st:DS)(v:DV):Pl->DS
 |.s i=>{ st with sl:=DM st.sl i v }|.b i c=>{ st with bx:=Fk st.bx i (DM (B1 st.bx i) c v) }|.h i c=>{ st with hp:=Fk st.hp i (DM (B1 st.hp i) c v) }
def CT.ofQ(q:Ql):(t:CT)->DV->Option t.D
 |.int k,.int k' n=>if IntKind.same k k' then some n else none|.bool,.bool b=>some b.b|.str,.str s=>some s|.ifc,.ifc b=>some b|.sl r,.nil q'=>if Eh q q' then some ([]:List r.D)else none|.sl r,.sl q' r' l=>if Eh q q' then Io (r':=r') (r:=r) l else none|_,_=>none
def Ix:(l:List (Ql×CT))->List DV->Option (AgX l)
 |[],[]=>some ()|[a],[v]=>a.2.ofQ a.1 v| a::b::r,v::vs=>(match a.2.ofQ a.1 v,Ix (b::r) vs with
   |some x,some y=>some (x,y)
   |_,_=>none)
 |_,_=>none
def De:(l:List (Ql×CT))->AgX l->List DV
 |[],_=>[]|[a],x=>[a.2.dv a.1 x]|a::b::r,x=>a.2.dv a.1 x.1::De (b::r) x.2
def HT.of:(h:HT)->DV->Option h.D
 |.one q t,v=>t.ofQ q v|.agg l,.agg vs=>Ix l vs|.agg _,_=>none
def HT.dv:(h:HT)->h.D->DV
 |.one q t,x=>t.dv q x|.agg l,x=>.agg (De l x)
def NN(st:DS):(H:List Hole)->Option (IA H)
 |[]=>some ()|[a]=>a.t.of (st.at a.pl)| a::b::r=>(match a.t.of (st.at a.pl),NN st (b::r)with
   |some x,some y=>some (x,y)
   |_,_=>none)
def wrX(st:DS):(H:List Hole)->IA H->DS
 |[],_=>st|[a],x=>st.wr (a.t.dv x) a.pl|a::b::r,x=>wrX (st.wr (a.t.dv x.1) a.pl) (b::r) x.2
def DV.same:DV->DV->Bool
 |.undef,.undef=>true|.nil q,.nil q'=>Eh q q'|.box i o,.box i' o'=>i == i'&&o == o'|.ptr i o,.ptr i' o'=>i == i'&&o == o'|_,_=>false
def DV.isAny:DV->Bool
 |.any=>true|_=>false
inductive Cls where
 |left|hole (t:HT)|kill
def sL:DV->DV->Option (Ql×CT)
 |.int k _,.int k' _=>if IntKind.same k k' then some (.own,.int k)else none|.bool _,.bool _=>some (.own,.bool)|.str _,.str _=>some (.own,.str)|.ifc _,.ifc _=>some (.own,.ifc)|.nil q,.sl q' r _=>if Eh q q' then some (q,.sl r)else none|.sl q r _,.nil q'=>if Eh q q' then some (q,.sl r)else none|.sl q r _,.sl q' r' _=>if Eh q q'&&RT.beq r' r then some (q,.sl r)else none|_,_=>none
def sD:List DV->List DV->Option (List (Ql×CT))
 |[],[]=>some []| x::a,y::b=>(match sL x y,sD a b with
   |some t,some l=>some (t::l)
   |_,_=>none)
 |_,_=>none
def sM(x:DV)(y:DC):Cls:=
 if y.d then (if x.isAny||x.same y.v then .left else match x,y.v with
  | .agg a,.agg b=>(match sD a b with
    |some l=>.hole (.agg l)
    |none=>.kill)
  | x,y=>(match sL x y with
    |some t=>.hole (.one t.1 t.2)
    |none=>.kill))else .left
def Mm(g:Nat->Pl):Nat->List DC->List DC->List Hole×List DC
 | n,x::a,y::b=>(match sM x.v y,Mm g (n+1) a b with
   |.left,(H,l)=>(H,x::l)
   |.hole t,(H,l)=>(⟨g n,t⟩::H,⟨true,.any⟩::l)
   |.kill,(H,l)=>(H,⟨true,.any⟩::l))
 |_,a,_=>([],a)
def Pv(g:Nat->Nat->Pl):Nat->List (List DC)->List (List DC)->List Hole×List (List DC)
 | n,x::a,y::b=>(match Pv g (n+1) a b with
   |(H,l)=>if x.length == y.length then (match Mm (g n) 0 x y with|(H',x')=>(H'++H,x'::l))else (H,[]::l))
 |_,a,_=>([],a)
def UM(x y:DS):List Hole×DS:=
 match Mm .s 0 x.sl y.sl,Pv .b 0 x.bx y.bx,Pv .h 0 x.hp y.hp with
 |(H1,s),(H2,b),(H3,h)=>(H1++H2++H3,⟨s,b,h⟩)
def UU:List DC->List DC->Bool
 |k::a,y::b=>(k.v.isAny||!y.d||k.v.same y.v)&&UU a b|[],[]=>true|_,_=>false
def US:List (List DC)->List (List DC)->Bool
 |k::a,y::b=>(k.length == 0||UU k y)&&US a b|[],[]=>true|_,_=>false
def gj(K y:DS):Bool:=UU K.sl y.sl&&US K.bx y.bx&&US K.hp y.hp
def QW(K:DS):List Hole->Bool
 |[]=>true|a::r=>(K.at a.pl).isAny&&QW K r
def DV.top:DV->Bool
 |.sl (.i6 _ _ t) _ _=>t|.sl (.pre _ _) _ _=>true|.nil (.i6 _ _ t)=>t|.nil (.pre _ _)=>true|.ep (.i6 _ _ t) _ _ _ _=>t|.ep (.pre _ _) _ _ _ _=>true|.agg _=>true|.f8 _=>true|_=>false
mutual
def DV.hasTop:DV->Bool
 |.agg cs=>DV.hasTopL cs|.f8 cs=>DV.hasTopL cs|v=>v.top
def DV.hasTopL:List DV->Bool
 |[]=>false|v::r=>v.hasTop||DV.hasTopL r
end
def YW (live:List Nat):Nat->List DC->List DC
 |_,[]=>[]|n,c::r=>(if live.contains n then (if c.v.hasTop then ⟨true,c.v.detop⟩else c)else ⟨true,.any⟩)::YW live (n+1) r
def EA(live:List Nat)(st:DS):DS:={ st with sl:=YW live 0 st.sl }
def Y7(live:List Nat)(st:DS):DS:={ st with sl:=Y4 live 0 st.sl }
def Ul(live:List Nat)(body:DS->DT)(A:DS):Nat->DS->Option (List Hole×DS)
 | 0,cur=>(match (body cur).norm with
   |.some m=>some (UM A (EA live m))
   |_=>none)
 | n + 1,cur=>(match (body cur).norm with
   | .some m=>(match UM A (EA live m)with
     | (H,K)=>(match NN A H with
       |some x0=>Ul live body A n (wrX K H x0)
       |none=>none))
   |_=>none)
def NS.isNone:NS->Bool
 |.none=>true|_=>false
section
variable (live:List Nat) (body:DS->DT) (K:DS) (H:List Hole)
def lT(x:IA H):DT:=body (wrX K H x)
def Ry(x:IA H):Bool:=match (lT body K H x).cont with|some b=>b.b|none=>false
def Rw(x:IA H):IA H:=match (lT body K H x).norm with
 |.some m=>(match NN (EA live m) H with|some y=>y|none=>x)
 |_=>x
def se(x:IA H):PX:=(lT body K H x).ok.land (match (lT body K H x).norm with
 |.some m=>if gj K (EA live m)&&(NN (EA live m) H).isSome then .tt else .ff|.none=>.tt|.fail=>.ff)
end
def Rx (live:List Nat)(n:Nat)(body:DS->DT)(st:DS):DT:=
 if (body (EA live st)).norm.isNone then (body (EA live st)).map (NL (EA live st))
 else match Ul live body (EA live st) n (EA live st)with
 |none=>.bad| some (H,K)=>(match NN (EA live st) H with
   |none=>.bad
   | some x0=>if QW K H then
      .chk (.p (a_ (Ry body K H) (Rw live body K H) (λx=>(se live body K H x).den) x0))
       ((lT body K H (Am (Ry body K H) (Rw live body K H) x0)).drop.map (NL (wrX K H (Am (Ry body K H) (Rw live body K H) x0))))
     else .bad)
abbrev NG:=List DV->Option (PX×DV)
abbrev GO:=List DV->List (List DV)->Option (PX×DV×List (List DV))
structure DMk where
 r:RT
 agg:Bool
 ok:r.D->Prop
 g:r.D->Int->r.D×Int
 vd:Bool
def DMk.P(M:DMk):PMk:=⟨M.agg,λAN m K=>∃x,AN=M.r.enc x/\M.ok x/\K (M.r.enc (M.g x m).1) (M.g x m).2,M.vd⟩
structure DTk where
 ra:RT
 row:RT
 ok:ra.D->List row.D->Prop
 sel:ra.D->List row.D->List Nat
 val:ra.D->List row.D->List row.D
 law:∀a l,ok a l->(sel a l).Pairwise (· < ·)/\(∀i∈sel a l,i<l.length)/\val a l=(sel a l).map λi=>l.getD i row.dflt
def DTk.P(M:DTk):PTk:=⟨M.row.w,λa es K=>∃x l,a=(PV.agg (M.ra.enc x)).fz.nrm/\es=l.map (RT.enc M.row)/\M.ok x l/\K (M.sel x l)⟩
inductive DOp where
 |a (m:Bool) (o:p_) (ty:Option RT)|aw (ws:List (Nat×Nat)) (m:Bool) (o:p_) (ty:Option RT)|call (m:Bool) (f:Bg) (p:Dl) (D:NG) (args:List T_)|mark (f:Bg) (M:DMk) (x k:T_)|tk (f:Bg) (M:DTk) (x y:T_)|callp (m:Bool) (f:Bg) (p:Dl) (D:GO) (args:List T_)|callv (m:Bool) (f:Bg) (p:Dl) (D:GO) (args:List T_) (i c:Nat)|fz (x:T_)|clm (a:T_) (t:Nat) (o:p_)|fzb (a:T_) (o:p_)
structure DOper where
 id:Nat
 dst:Option Nat
 op:DOp
 guard:Option (Nat×Bool)
 anc:List Nat
inductive d5 where
 |skip|region (ops:List DOper)|regionU (ops:List DOper)|seq (l:List Nat) (a b:d5)|cond (c:T_) (a b:d5)|block (id:Nat) (a:d5)|scope (a:d5)|loop (live:List Nat) (n:Nat) (a:d5)|exit (id:Nat)|ret
def DOp.er:DOp->POp
 |.a m o _=>.a m o|.aw ws m o _=>.aw ws m o|.call m f p _ args=>.callk m f p args|.mark f M x k=>.mark f M.P x k|.tk f M x y=>.tk f M.P x y|.callp m f p _ args=>.call m f p args|.callv m f p _ args i c=>.callv m f p args i c|.fz x=>.fz x|.clm x t o=>.clm x t o|.fzb x o=>.fzb x o
def DOper.er(o:DOper):POper:=⟨o.id,o.dst,o.op.er,o.guard,o.anc⟩
def d5.er:d5->PCode
 |.skip=>.skip|.region ops=>.region (ops.map DOper.er)|.regionU ops=>.regionU (ops.map DOper.er)|.seq l a b=>.seq l a.er b.er|.cond c a b=>.cond c a.er b.er|.block i a=>.block i a.er|.scope a=>.scope a.er|.loop l _ a=>.loop l a.er|.exit i=>.exit i|.ret=>.ret
@[reducible] def oa (i d:Nat) (o:p_):DOper:=⟨i,some d,.a false o none,none,[]⟩
@[reducible] def ob (i d:Nat) (o:p_):DOper:=⟨i,some d,.a true o none,none,[]⟩
@[reducible] def om (i d t:Nat):DOper:=⟨i,some d,.a false (.mv (.t t)) none,none,[]⟩
@[reducible] def on (i d t:Nat):DOper:=⟨i,some d,.a true (.mv (.t t)) none,none,[]⟩
@[reducible] def oi (i d:Nat) (n:Int):DOper:=⟨i,some d,.a false (.mv (.c (.int .i64 n))) none,none,[]⟩
@[reducible] def os (i:Nat) (o:p_):DOper:=⟨i,none,.a false o none,none,[]⟩
@[reducible] def og (i d:Nat) (o:p_) (g:Nat) (b:Bool):DOper:=⟨i,some d,.a false o none,some (g,b),[]⟩
@[reducible] def xA (i d:Nat) (o:p_) (a:List Nat):DOper:=⟨i,some d,.a false o none,none,a⟩
@[reducible] def xB (i d:Nat) (o:p_) (a:List Nat):DOper:=⟨i,some d,.a true o none,none,a⟩
@[reducible] def xS (i:Nat) (o:p_) (a:List Nat):DOper:=⟨i,none,.a false o none,none,a⟩
@[reducible] def op (i d:Nat) (f:Bg) (p:Dl) (D:GO) (args:List T_):DOper:=⟨i,some d,.callp false f p D args,none,[]⟩
def qK:Nat->Nat->List Nat
 |_,0=>[]|k,n+1=>k::qK (k+1) n
def rg(n:Nat):List Nat:=qK 0 n
def E8:List T_->DS->DS
 |[],st=>st|x::r,st=>E8 r (FE x st).2
def FP(s:List DC):List T_->List DV
 |[]=>[]|x::r=>x.dev s::FP s r
def Pf(D:NG)(args:List T_)(st:DS):En:=
 let as:=FP st.sl args
 if Js as&&!(DV.hasPtrL as)then (match D (DV.nrmV (DV.fzL as))with
  |some (g,v)=>if v.ok&&!v.q_&&(v.deep||!(DV.holdL as))then some (g,v,st)else none
  |none=>none)
 else none
def Ql.isH':Ql->Bool
 |.i6 (.h _) _ _=>true|.pre (.h _) _=>true|_=>false
mutual
def DV.isH:DV->Bool
 |.nil q=>q.isH'|.sl q _ _=>q.isH'|.ep q _ _ _ _=>q.isH'|.agg cs=>DV.isHL cs|.f8 vs=>DV.isHL vs|_=>false
def DV.isHL:List DV->Bool
 |[]=>false|v::r=>v.isH||DV.isHL r
end
def Ur:List DC->List DC
 |[]=>[]|c::r=>(if c.v.isH then ⟨true,.any⟩else c)::Ur r
def Iq:List (List DC)->List (List DV)
 |[]=>[]|b::r=>Ct b::Iq r
def newsB:List (List DV)->List (List DC)
 |[]=>[]|b::r=>news b::newsB r
def Pk:List DC->List DV->List DC
 |[],vs=>news vs|c::r,[]=>c::r|c::r,v::vs=>(if v.isAny then c else ⟨true,v⟩)::Pk r vs
def Pn:List (List DC)->List (List DV)->List (List DC)
 |[],vs=>newsB vs|c::r,[]=>c::r|c::r,v::vs=>Pk c v::Pn r vs
def Gi:List DV->List DV->List DV
 |[],vs=>vs|c::r,[]=>c::r|c::r,v::vs=>(if v.isAny then c else v)::Gi r vs
def Km:List (List DV)->List (List DV)->List (List DV)
 |[],vs=>vs|c::r,[]=>c::r|c::r,v::vs=>Gi c v::Km r vs
def Zt:List (List DV)->Bool
 |[]=>true|b::r=>Nat.blt 0 b.length&&DV.okL b&&Zt r
def HA:List (List DV)->List (List PV)
 |[]=>[]|b::r=>DV.d8 b::HA r
def DV.isP0:DV->Bool
 |.ptr 0 0=>true|_=>false
def L3(D:GO)(args:List T_)(st:DS):En:=
 let as:=FP st.sl args
 if Js as&&!(DV.holdL as)&&Zt (Iq st.hp)then
  (if DV.hasPtrL as then (match D (DV.nrmV (DV.fzL as)) (Iq st.hp)with
   |some (g,v,H)=>if v.ok&&!v.q_ then some (g,v,{ st with sl:=Ur st.sl,hp:=Pn st.hp H })else none
   |none=>none)
  else if st.hp.length == 0 then (match D (DV.nrmV (DV.fzL as)) []with
   |some (g,v,H)=>if v.isP0 then some (g,v,{ st with hp:=newsB H })else none
   |none=>none)
  else none)
 else none
def DV.ownS:DV->Bool
 |.sl .own _ _|.nil .own=>true|_=>false
def T6(i c:Nat)(D:GO)(args:List T_)(st:DS):En:=if DV.hasPtrL (FP st.sl args)&&(Ck st (.b i) [c]).ownS then L3 D args st else none
def DV.isAgg:DV->Bool
 |.agg _=>true|_=>false
def DV.flatc:DV->Bool
 |.bool _|.int _ _|.str _|.ifc _=>true|_=>false
def Za:Nat->List DV->Option (Hd×Nat)
 |_,[]=>none|c,.sl (.i6 hd [p] true) _ _::_=>if Nat.ble c p&&hd.sb then some (hd,p-c)else none|c,.nil (.i6 hd [p] true)::_=>if Nat.ble c p&&hd.sb then some (hd,p-c)else none|c,_::r=>Za (c+1) r
def EY(st:DS)(hd:Hd):Nat->List DV->Option (PX×List DV)
 |_,[]=>some (.tt,[])|c,.sl q _ l::vs=>if Eh q (.i6 hd [c] true)then (match Ck st hd [c],EY st hd (c+1) vs with
  |.sl .own r' l',some (g,os)=>some (PX.land (.p (l.length=l'.length)) g,.sl .own r' l'::os)
  |.nil .own,some (g,os)=>some (PX.land (.p (l.length=0)) g,.nil .own::os)
  |_,_=>none)else if Eh q (.pre hd [c])then (match Ck st hd [c],EY st hd (c+1) vs with
  |.sl (.i5 _) r' l',some (g,os)=>some (PX.land (.p (l.length=l'.length)) g,.sl .own r' l'::os)
  |_,_=>none)else none
 |c,.nil q::vs=>if Eh q (.i6 hd [c] true)then (match Ck st hd [c],EY st hd (c+1) vs with
  |.sl .own r' l',some (g,os)=>some (PX.land (.p (l'.length=0)) g,.sl .own r' l'::os)
  |.nil .own,some (g,os)=>some (g,.nil .own::os)
  |_,_=>none)else none
 |c,v::vs=>if v.flatc then (match EY st hd (c+1) vs with
  |some (g,os)=>some (g,v::os)
  |none=>none)else none
def JL(hd:Hd):Nat->List DV->DS->Option DS
 |_,[],st=>some st| c,.sl q r l::vs,st=>(match Ck st hd [c]with
   |.sl .own _ _=>JL hd (c+1) vs (Ir st (.sl q r l) hd [c])
   |.nil .own=>JL hd (c+1) vs (Ir st (.sl q r l) hd [c])
   |.sl (.i5 w) _ _=>JL hd (c+1) vs (Ir st (.sl (.i5 w) r l) hd [c])
   |_=>none)
 |_,.nil _::_,_=>none|c,_::vs,st=>JL hd (c+1) vs st
def Pj (M:DMk)(x k:T_)(st:DS):En:=
 match k.dev st.sl with
 | .int .i64 m=>if (x.dev st.sl).isAgg == M.agg&&(x.dev st.sl).argok&&M.r.pl then (match Za 0 (x.dev st.sl).cells with
   | some (hd,b)=>(match EY st hd b (x.dev st.sl).cells with
     | some (g,os)=>(match M.r.of os with
       | some y=>(match JL hd b (M.r.dv .own (M.g y m).1) st with
         |some f4=>some (g.land (.p (M.ok y)),(match M.vd with|true=>.undef|false=>.int .i64 (M.g y m).2),f4)
         |none=>none)
       |none=>none)
     |none=>none)
   |none=>none)else none
 |_=>none
def PB (M:DTk)(x y:T_)(st:DS):En:=
 match y,x.dev st.sl with
 | .t t,.agg cs=>(match CT.of (.sl M.row) (Bu st.sl t),M.ra.ofA cs with
   |some l,some a=>if DV.argok (.agg cs)&&!(DV.hasPtrL cs)&&Nat.blt 0 M.row.w then
    some (.p (M.ok a l),.sl .own M.row (M.val a l),{ st with sl:=Dv (.s t) (DM st.sl t .any) })else none
   |_,_=>none)
 |_,_=>none
def O4(a:DV)(n:Nat)(st:DS):En:=
 match a with
 |.box i o=>Nl true i (some n) (.box i o) st|.ptr i o=>LY true (some n) (.ptr i o) st|_=>none
def DV.hld:DV->Option (Hd×Nat)
 |.box i o=>some (.b i,o)|.ptr i o=>some (.h i,o)|_=>none
def sK(c:DC):DC:=
 match c.v with
 |.sl .Z_ _ _=>c|.nil .Z_=>c|.sl _ _ _=>⟨true,c.v.fz⟩|.nil _=>⟨true,c.v.fz⟩|.any=>c|.undef=>c|.int _ _=>c|.bool _=>c|.str _=>c|.ifc _=>c|_=>⟨true,c.v.fz⟩
def RF:List DC->List DC
 |[]=>[]|c::r=>sK c::RF r
def Po(a:DV)(st:DS):Option DS:=
 match a with
 |.box i _=>some { st with sl:=Dv (.b i) st.sl,bx:=Fk st.bx i (RF (B1 st.bx i)) }|.ptr i _=>some { st with sl:=Dv (.h i) st.sl,hp:=Fk st.hp i (RF (B1 st.hp i)) }|_=>none
def Hd.isB:Hd->Bool
 |.b _=>true|_=>false
def Mi(st:DS)(hd:Hd):Nat->List DV->Option (List DV)
 |_,[]=>some []| c,.sl q r l::vs=>(match Ck st hd [c],Mi st hd (c+1) vs with
   |.sl .own _ _,some os=>some (.sl q r l::os)
   |.nil .own,some os=>some (.sl q r l::os)
   |.sl (.i5 _) r' l',some os=>if hd.isB&&Eh q .own then some (.sl (.i5 0) r' l'::os)else none
   |_,_=>none)
 | c,.nil q::vs=>(match Ck st hd [c],Mi st hd (c+1) vs with
   |.sl .own _ _,some os=>some (.nil q::os)
   |.nil .own,some os=>some (.nil q::os)
   |_,_=>none)
 | c,v::vs=>if v.flatc then (match Mi st hd (c+1) vs with
   |some os=>some (v::os)
   |none=>none)else none
def Pr(a:T_)(t:Nat)(st:DS):Option (PX×DS):=
 match (a.dev st.sl).hld,Bu st.sl t with
 | some (hd,b),.agg cs=>(match EY st hd b cs with
   | some (g,os)=>(match O4 (a.dev st.sl) os.length st with
     | some (g2,_,st1)=>(match Mi st hd b os with
       |some i=>some (g.land g2,st1.put (some t) (.agg i))
       |none=>none)
     |none=>none)
   |none=>none)
 |_,_=>none
def Cr(o:DOp)(d:Option Nat)(k:DS->DT)(st:DS):DT:=
 match o with
 | .call m _ _ D args=>(match Pf D args (if m then E8 args st else st)with
   |some (g,v,st)=>DT.chk' g (k (st.put d v))
   |none=>.bad)
 | .callp m _ _ D args=>(match L3 D args (if m then E8 args st else st)with
   |some (g,v,st)=>DT.chk' g (k (st.put d v))
   |none=>.bad)
 |.fz x=>if (FE x st).1.ok then k ((FE x st).2.put d (FE x st).1.nrm)else .bad| .fzb a o=>(match Po (a.dev st.sl) st with
   | some st=>(match BD false o none st with
     |some (g,v,st)=>DT.chk' g (k (st.put d v))
     |none=>.bad)
   |none=>.bad)
 | .clm a t o=>(match Pr a t st with
   | some (g0,st)=>(match BD false o none st with
     |some (g,v,st)=>DT.chk' (g0.land g) (k (st.put d v))
     |none=>.bad)
   |none=>.bad)
 | .callv m _ _ D args i c=>(match T6 i c D args (if m then E8 args st else st)with
   |some (g,v,st)=>DT.chk' g (k (st.put d v))
   |none=>.bad)
 | .aw ws m o ty=>(match O6 ws m o ty st with
   |some (g,v,st)=>DT.chk' g (k (st.put d v))
   |none=>.bad)
 | .tk _ M x y=>(match PB M x y st with
   |some (g,v,st)=>DT.chk' g (k (st.put d v))
   |none=>.bad)
 | .mark _ M x y=>(match Pj M x y st with
   |some (g,v,st)=>DT.chk' g (k (st.put d v))
   |none=>.bad)
 | .a m o ty=>(match o with
   | .pick c a b=>(match c.dev st.sl with
     | .bool (.lit t)=>(match if t then Bx a st else Bx b st with
       |(v,st)=>if v.ok then k (st.put d v)else .bad)
     | .bool (.dyn t)=>
       if (a.dev st.sl).own||(b.dev st.sl).own||!(DK t (a.dev st.sl) (b.dev st.sl)).ok then .node t (match Bx a st with|(v,st)=>if v.ok then k (st.put d v)else .bad) (match Bx b st with|(v,st)=>if v.ok then k (st.put d v)else .bad)
       else k (st.put d (DK t (a.dev st.sl) (b.dev st.sl)))
     |_=>.bad)
   | o=>(match BD m o ty st with
     |some (g,v,st)=>DT.chk' g (k (st.put d v))
     |none=>.bad))
def Pw(st:DS)(g:Nat)(b:Bool):DS:={ st with sl:=DM st.sl g (.bool (.lit b)) }
def Rt(o:DOper)(k:DS->DT)(st:DS):DT:=
 match o.guard with
 |none=>Cr o.op o.dst k st| some (g,want)=>(match Bu st.sl g with
   |.bool (.lit b)=>if b == want then Cr o.op o.dst k st else k (st.put o.dst (.f8 []))
   |.bool (.dyn b)=>.node b (if want then Cr o.op o.dst k (Pw st g true)else k ((Pw st g true).put o.dst (.f8 []))) (if want then k ((Pw st g false).put o.dst (.f8 []))else Cr o.op o.dst k (Pw st g false))
   |.f8 []=>k (st.put o.dst (.f8 []))
   |_=>.bad)
def KB:List DOper->DS->DT
 |[],st=>.leaf .normal st|o::r,st=>Rt o (KB r) st
def setc(st:DS)(c:T_)(b:Bool):DS:=match c with
 |.t g=>Pw st g b|.c _=>st
mutual
def DV.pge(n:Nat):DV->Bool
 |.ptr i _=>Nat.ble n i|.agg cs=>DV.pgeL n cs|.f8 vs=>DV.pgeL n vs|_=>false
def DV.pgeL(n:Nat):List DV->Bool
 |[]=>false|v::r=>v.pge n||DV.pgeL n r
end
def Y3(n:Nat):List DC->List DC
 |[]=>[]|c::r=>(if c.v.isH||c.v.pge n then ⟨true,.any⟩else c)::Y3 n r
def DS.trunc(n:Nat)(st:DS):DS:={ st with sl:=Y3 n st.sl,hp:=st.hp.take n }
def dev:d5->DS->DT
 |.skip,st=>.leaf .normal st|.region ops,st=>KB ops st|.regionU ops,st=>if Uo (ops.map DOper.er)then KB ops st else .bad|.seq l a b,st=>(dev a st.clean).then (λf4=>dev b (NL st (Y7 l f4))) (NL st)
 | .cond c a b,st=>(match c.dev st.sl with
   |.bool (.lit t)=>if t then dev a st else dev b st
   |.bool (.dyn t)=>.node t (dev a (setc st c true)) (dev b (setc st c false))
   |_=>.bad)
 |.block i a,st=>(dev a st).unexit i|.scope a,st=>(dev a st).map (DS.trunc st.hp.length)|.loop live n a,st=>Rx live n (λst=>dev a st.clean) st
 |.exit i,st=>.leaf (.exit i) st|.ret,st=>.leaf .ret st
structure DFun where
 nparams:Nat
 nslots:Nat
 nbox:Nat
 pure:Bool
 res:List ARes
 body:d5
def DFun.er(f:DFun):PFun:=⟨f.nparams,f.nslots,f.nbox,f.pure,f.res,f.body.er⟩
def L6(st:DS):ARes->Option (DV×DS)
 |.tmp t=>if (Bu st.sl t).retok&&(Bu st.sl t).ok then some (UI (Bu st.sl t) t st)else none| .cell t n=>(match Bu st.sl t with
   |.box i o=>if Nat.ble (o+n.getD 1) (B1 st.bx i).length&&Kl (Cp (Ct (B1 st.bx i)) o (n.getD 1))then (Nl true i n (.box i o) st).map (·.2)else none
   |.ptr i o=>if Nat.ble (o+n.getD 1) (B1 st.hp i).length&&Kl (Cp (Ct (B1 st.hp i)) o (n.getD 1))then (LY true n (.ptr i o) st).map (·.2)else none
   |_=>none)
def Jo(st:DS):List ARes->Option (List DV×DS)
 |[]=>some ([],st)| r :: rs=>(match L6 st r with
   | some (v,st)=>(match Jo st rs with
     |some (vs,st)=>some (v::vs,st)
     |none=>none)
   |none=>none)
def HC(st:DS):List ARes->Option DV
 |[r]=>(L6 st r).map (·.1)|rs=>(Jo st rs).map λx=>.f8 x.1
def DT.val(res:List ARes):DT->PX×Option DV
 |.leaf (.exit _) _=>(.ff,none)| .leaf _ st=>(match HC st res with
   |some v=>if v.ok&&!v.q_ then (.tt,some v)else (.ff,none)
   |none=>(.ff,none))
 | .node c a b=>(match a.val res,b.val res with
   |(g,none),(g',y)=>(PX.if' c g g',y)
   |(g,x),(g',none)=>(PX.if' c g g',x)
   |(g,some x),(g',some y)=>(PX.if' c g g',some (DK c x y)))
 | .chk g t=>(match t.val res with
   |(g',v)=>(g.land g',v))
 |.bad=>(.ff,none)
def Kd(n:Nat):List DC:=match n with
 |0=>[]|n+1=>⟨true,.any⟩::Kd n
def Kc:Nat->List (List DC)
 |0=>[]|n+1=>[]::Kc n
def UW(f:DFun)(args:List DV):PX×Option DV:=(dev f.body ⟨news args++Kd (f.nslots-f.nparams),Kc f.nbox,[]⟩).val f.res
end
def EC(c:DC)(p:PV):Prop:=c.v= .any\/p=c.v.enc
def EL:List DC->List PV->Prop
 |[],[]=>True|c::a,p::b=>EC c p/\EL a b|_,_=>False
def EBx(b:List DC)(p:List PV):Prop:=b=[]\/EL b p
def EB:List (List DC)->List (List PV)->Prop
 |[],[]=>True|c::a,p::b=>EBx c p/\EB a b|_,_=>False
structure ES (d:DS) (s:PS):Prop where
 sl:EL d.sl s.sl
 bx:EB d.bx s.bx
 hp:EB d.hp s.hp
theorem EL.len:∀ {a:List DC} {b:List PV},EL a b->a.length=b.length
 |[],[],_=>rfl
 |_::_,_::_,h=>by simp only[A0,EL.len h.2]
theorem EB.len:∀ {a:List (List DC)} {b:List (List PV)},EB a b->a.length=b.length
 |[],[],_=>rfl
 |_::_,_::_,h=>by simp only[A0,EB.len h.2]
def EV(v:DV)(p:PV):Prop:=v= .any\/p=v.enc
theorem EL.get:∀ {a:List DC} {b:List PV} (n:Nat),EL a b->EV (Bu a n) (Aa b n)
 |[],[],_,_=>.inl rfl
 |_::_,_::_,0,h=>h.1
 |_::_,_::_,n+1,h=>EL.get n h.2
theorem EL.put:∀ {a:List DC} {b:List PV} {v:DV} {p:PV} (n:Nat),EL a b->EV v p->EL (DM a n v) (BW b n p)
 |[],[],_,_,_,_,_=>trivial
 |_::_,_::_,_,_,0,h,hv=>⟨hv,h.2⟩
 |_::_,_::_,_,_,n+1,h,hv=>⟨h.1,EL.put n h.2 hv⟩
theorem EB.get:∀ {a:List (List DC)} {b:List (List PV)} (n:Nat),EB a b->EBx (B1 a n) (Ao b n)
 |[],[],_,_=>.inl rfl
 |_::_,_::_,0,h=>h.1
 |_::_,_::_,n+1,h=>EB.get n h.2
theorem EB.put:∀ {a:List (List DC)} {b:List (List PV)} {v:List DC} {p:List PV} (n:Nat),EB a b->EBx v p->EB (Fk a n v) (Cf b n p)
 |[],[],_,_,_,_,_=>trivial
 |_::_,_::_,_,_,0,h,hv=>⟨hv,h.2⟩
 |_::_,_::_,_,_,n+1,h,hv=>⟨h.1,EB.put n h.2 hv⟩
theorem F1:∀(l:List DV),(DV.d8 l).length=l.length
 |[]=>rfl
 |_::r=>by simp only[DV.d8,A0,F1 r]
theorem EL.e_:∀ {a:List DC} {b:List PV} (n:Nat) (g:List DV),EL a b->EL (J8 a n g) (AY b n (DV.d8 g))
 |[],[],_,[],_=>trivial
 |[],[],_,_::_,_=>trivial
 |_::_,_::_,0,[],h=>h
 |_::_,_::_,_+1,[],h=>h
 |_::_,_::_,0,v::g,h=>⟨.inr rfl,EL.e_ 0 g h.2⟩
 |_::_,_::_,n+1,v::g,h=>⟨h.1,EL.e_ n (v::g) h.2⟩
theorem W8:∀(cs:List DV) (n:Nat) (b:List DV),DV.d8 (Nf cs n b)=AY (DV.d8 cs) n (DV.d8 b)
 |[],_,[]=>rfl
 |_::_,0,[]=>rfl
 |_::_,_+1,[]=>rfl
 |[],0,_::_=>rfl
 |[],_+1,_::_=>rfl
 |_::r,0,v::b=>by simp only[Nf,DV.d8,AY,W8 r 0 b]
 |c::r,n+1,v::b=>by simp only[Nf,DV.d8,AY,W8 r n (v::b)]
theorem Xw:∀(cs:List DV) (o n:Nat),DV.d8 (Cp cs o n)=s_ (DV.d8 cs) o n
 |[],0,0=>rfl
 |[],0,_+1=>rfl
 |[],_+1,_=>rfl
 |_::_,0,0=>rfl
 |c::r,0,n+1=>by simp only[Cp,DV.d8,s_,Xw r 0 n]
 | _::r,o+1,n=>by
   simp only[Cp,DV.d8,s_];exact Xw r o n
theorem QX:∀(cs:List DV) (n:Nat),(HF cs n).enc=Aa (DV.d8 cs) n
 |[],_=>rfl
 |_::_,0=>rfl
 |_::r,n+1=>QX r n
theorem X6:∀(cs:List DV) (n:Nat) (v:DV),DV.d8 (RE cs n v)=BW (DV.d8 cs) n v.enc
 |[],_,_=>rfl
 |_::_,0,_=>rfl
 |_::r,n+1,v=>by simp only[RE,DV.d8,BW,X6 r n v]
theorem EL.s_:∀ {a:List DC} {b:List PV} (o n:Nat),EL a b->DV.okL (Cp (Ct a) o n)=true->Go.Ag.s_ b o n=DV.d8 (Cp (Ct a) o n)
 |[],[],0,0,_,_=>rfl
 |[],[],0,_+1,_,_=>rfl
 |[],[],_+1,_,_,_=>rfl
 |_::_,_::_,0,0,_,_=>rfl
 | c::r,p::s,0,n+1,h,hk=>by
   simp only[Ct,Cp,DV.okL,Aj]at hk;simp only[Ct,Cp,Go.Ag.s_,DV.d8];rw[EL.s_ 0 n h.2 hk.2];rcases h.1 with h1|h1
   ·rw[h1]at hk;cases hk.1
   rw[h1]
 | _::r,_::s,o+1,n,h,hk=>by
   simp only[Ct,Cp,Go.Ag.s_]at hk ⊢;exact EL.s_ o n h.2 hk
theorem XY:∀(a:List DC),(Ct a).length=a.length
 |[]=>rfl
 |_::r=>by simp only[Ct,A0,XY r]
theorem EL.news:∀(b:List DV),EL (Go.Ag.news b) (DV.d8 b)
 |[]=>trivial
 |_::r=>⟨.inr rfl,EL.news r⟩
theorem pE(q:Ql)(es:List (List PV)):(PV.sl q es).own=q.own':=by cases q<;>rfl
theorem pP(q:Ql)(hd:Hd)(es:List (List PV)):(PV.sl q es).i6 hd=q.bor' hd:=by cases q<;>rfl
theorem Zif(q:Ql)(hd:Hd)(es:List (List PV))(j o:Nat):(PV.ep q es j o).i6 hd=q.bor' hd:=by cases q<;>rfl
mutual
theorem J9:∀(v:DV),v.enc.own=v.own
 |.any|.undef|.bool _|.int _ _|.str _|.ifc _|.box _ _|.ptr _ _=>rfl
 |.nil q=>pE q []
 |.sl q _ _=>pE q _
 |.ep q _ _ _ _=>by cases q<;>rfl
 |.agg cs=>QO cs
 |.f8 vs=>QO vs
theorem QO:∀(l:List DV),PV.ownL (DV.d8 l)=DV.ownL l
 |[]=>rfl
 |v::r=>by simp only[DV.d8,PV.ownL,DV.ownL,J9 v,QO r]
end
mutual
theorem Yc(hd:Hd):∀(v:DV),v.enc.i6 hd=v.i6 hd
 |.any|.undef|.bool _|.int _ _|.str _|.ifc _|.box _ _|.ptr _ _=>rfl
 |.nil q=>pP q hd []
 |.sl q _ _=>pP q hd _
 |.ep q _ _ _ _=>Zif q hd _ _ _
 |.agg cs=>c9 hd cs
 |.f8 vs=>c9 hd vs
theorem c9(hd:Hd):∀(l:List DV),PV.borL hd (DV.d8 l)=DV.borL hd l
 |[]=>rfl
 |v::r=>by simp only[DV.d8,PV.borL,DV.borL,Yc hd v,c9 hd r]
end
mutual
theorem Zhw:∀(v:DV),v.enc.hold=v.hold
 |.any|.undef|.bool _|.int _ _|.str _|.ifc _|.box _ _|.ptr _ _=>rfl
 |.nil q=>by cases q<;>rfl
 |.sl q _ _=>by cases q<;>rfl
 |.ep q _ _ _ _=>by cases q<;>rfl
 |.agg cs=>Tl cs
 |.f8 vs=>Tl vs
theorem Tl:∀(l:List DV),PV.holdL (DV.d8 l)=DV.holdL l
 |[]=>rfl
 |v::r=>by simp only[DV.d8,PV.holdL,DV.holdL,Zhw v,Tl r]
end
mutual
theorem YV:∀(v:DV),v.fz.enc=v.enc.fz
 |.any|.undef|.bool _|.int _ _|.str _|.ifc _|.box _ _|.ptr _ _|.nil _|.sl _ _ _|.ep _ _ _ _ _=>rfl
 |.agg cs=>by simp only[DV.fz,DV.enc,PV.fz,Q1 cs]
 |.f8 cs=>by simp only[DV.fz,DV.enc,PV.fz,Q1 cs]
theorem Q1:∀(l:List DV),DV.d8 (DV.fzL l)=PV.fzL (DV.d8 l)
 |[]=>rfl
 |v::r=>by simp only[DV.d8,PV.fzL,DV.fzL,YV v,Q1 r]
end
mutual
theorem bM:∀(v:DV),v.detop.enc=v.enc.detop
 |.any|.undef|.bool _|.int _ _|.str _|.ifc _|.box _ _|.ptr _ _=>rfl
 |.nil q=>by cases q<;>rfl
 |.sl q _ _=>by cases q<;>rfl
 |.ep q _ _ _ _=>by cases q<;>rfl
 |.agg cs=>by simp only[DV.detop,DV.enc,PV.detop,bp cs]
 |.f8 cs=>by simp only[DV.detop,DV.enc,PV.detop,bp cs]
theorem bp:∀(l:List DV),DV.d8 (DV.detopL l)=PV.detopL (DV.d8 l)
 |[]=>rfl
 |v::r=>by simp only[DV.d8,PV.detopL,DV.detopL,bM v,bp r]
end
mutual
theorem Td:∀(v:DV),v.enc.q_=v.q_
 |.any|.undef|.bool _|.int _ _|.str _|.ifc _|.box _ _|.ptr _ _|.nil _|.sl _ _ _|.ep _ _ _ _ _=>rfl
 |.agg cs=>MO cs
 |.f8 vs=>MO vs
theorem MO:∀(l:List DV),PV.hasPtrL (DV.d8 l)=DV.hasPtrL l
 |[]=>rfl
 |v::r=>by simp only[DV.d8,PV.hasPtrL,DV.hasPtrL,Td v,MO r]
end
mutual
theorem qa:∀(t:CT) (x:t.D),t.pl=true->(CT.enc t x).deep=true
 |.int _,_,_|.bool,_,_|.str,_,_|.ifc,_,_=>rfl
 | .sl r,l,h=>by
   simp only[CT.enc,PV.deep];exact dy r l h
 |.slf _,_,h=>by cases h
theorem pC:∀(r:RT) (x:r.D),r.pl=true->PV.deepL (RT.enc r x)=true
 |.one t,x,h=>by simp only[RT.enc,PV.deepL,qa t x h,DJ]
 | .cons t r,x,h=>by
   rw[RT.pl,Aj]at h;simp only[RT.enc,PV.deepL,qa t x.1 h.1,pC r x.2 h.2,DJ]
theorem dy:∀(r:RT) (l:List r.D),r.pl=true->PV.deepE (l.map (RT.enc r))=true
 |_,[],_=>rfl
 |r,x::l,h=>by simp only[Cm,PV.deepE,pC r x h,dy r l h,DJ]
end
theorem EL.clr(hd:Hd):∀ {a:List DC} {b:List PV},EL a b->EL (Dv hd a) (Go.Ag.clr hd b)
 |[],[],_=>trivial
 | c :: _,p::_,h=>by
   refine⟨?_,EL.clr hd h.2⟩;by_cases g:c.v.i6 hd=true
   ·rw[Ad g];exact .inl rfl
   rw[Ae g];rcases h.1 with h1|h1
   ·exact .inl h1
   rw[h1,Yc,Ae g];exact .inr rfl
theorem Zfk(i:Nat)(v:DV):v.enc.isBox i=v.isBox i:=by cases v<;>rfl
theorem EL.r_(i:Nat):∀ {a:List DC} {b:List PV},EL a b->EL (Tm i a) (Hl i b)
 |[],[],_=>trivial
 | c :: _,p::_,h=>by
   refine⟨?_,EL.r_ i h.2⟩;by_cases g:c.v.isBox i=true
   ·rw[Ad g];exact .inl rfl
   rw[Ae g];rcases h.1 with h1|h1
   ·exact .inl h1
   rw[h1,Zfk,Ae g];exact .inr rfl
theorem EL.trim(live:List Nat):∀ {a:List DC} {b:List PV} (n:Nat),EL a b->EL (Y4 live n a) (GL live n b)
 |[],[],_,_=>trivial
 | c::_,p::_,n,h=>by
   refine⟨?_,EL.trim live (n+1) h.2⟩;by_cases g:live.contains n=true
   ·rw[Ad g,Ad g];exact h.1
   rw[Ae g];exact .inl rfl
mutual
theorem nL:∀(v:DV),v.hasTop=false->v.detop=v
 |.any,_|.undef,_|.bool _,_|.int _ _,_|.str _,_|.ifc _,_|.box _ _,_|.ptr _ _,_=>rfl
 |.nil q,h=>by cases q<;>first|rfl|(simp only[DV.hasTop,DV.top]at h;first|(subst h;rfl)|cases h)
 |.sl q _ _,h=>by cases q<;>first|rfl|(simp only[DV.hasTop,DV.top]at h;first|(subst h;rfl)|cases h)
 |.ep q _ _ _ _,h=>by cases q<;>first|rfl|(simp only[DV.hasTop,DV.top]at h;first|(subst h;rfl)|cases h)
 |.agg cs,h=>by simp only[DV.hasTop]at h;simp only[DV.detop,cd cs h]
 |.f8 cs,h=>by simp only[DV.hasTop]at h;simp only[DV.detop,cd cs h]
theorem cd:∀(l:List DV),DV.hasTopL l=false->DV.detopL l=l
 |[],_=>rfl
 | v::r,h=>by
   simp only[DV.hasTopL,Cl]at h;simp only[DV.detopL,nL v h.1,cd r h.2]
end
theorem EL.keep(live:List Nat):∀ {a:List DC} {b:List PV} (n:Nat),EL a b->EL (YW live n a) (Fl live n b)
 |[],[],_,_=>trivial
 | c :: _,p::_,n,h=>by
   refine⟨?_,EL.keep live (n+1) h.2⟩;by_cases g:live.contains n=true
   ·rw[Ad g,Ad g];rcases h.1 with h1|h1
    ·rw[h1];exact .inl h1
    by_cases ht:c.v.hasTop=true
    ·rw[Ad ht,h1];exact .inr (bM c.v).symm
    rw[Ae ht,h1,<- bM,nL c.v (by simpa using ht)];exact .inr rfl
   rw[Ae g];exact .inl rfl
theorem EL.clean:∀ {a:List DC} {b:List PV},EL a b->EL (Go.Ag.clean a) b
 |[],[],_=>trivial
 |_::_,_::_,h=>⟨h.1,EL.clean h.2⟩
theorem EBx.clean{a:List DC}{b:List PV}(h:EBx a b):EBx (Go.Ag.clean a) b:=by
 rcases h with rfl|h
 ·exact .inl rfl
 exact .inr h.clean
theorem EB.clean:∀ {a:List (List DC)} {b:List (List PV)},EB a b->EB (Rg a) b
 |[],[],_=>trivial
 |_::_,_::_,h=>⟨h.1.clean,EB.clean h.2⟩
theorem ES.clean{d:DS}{s:PS}(h:ES d s):ES d.clean s:=⟨h.sl.clean,h.bx.clean,h.hp.clean⟩
theorem ES.trim{d:DS}{s:PS}(l:List Nat)(h:ES d s):ES (Y7 l d) { s with sl:=GL l 0 s.sl }:=⟨h.sl.trim l 0,h.bx,h.hp⟩
theorem ES.keep{d:DS}{s:PS}(l:List Nat)(h:ES d s):ES (EA l d) { s with sl:=Fl l 0 s.sl }:=⟨h.sl.keep l 0,h.bx,h.hp⟩
theorem EL.rem:∀ {x a:List DC} {b:List PV},EL a b->EL (RH x a) b
 |[],[],[],_=>trivial
 |[],_::_,_::_,h=>h
 |_::_,[],[],_=>trivial
 |_::_,_::_,_::_,h=>⟨h.1,EL.rem h.2⟩
theorem EBx.rem{x a:List DC}{b:List PV}(h:EBx a b):EBx (RH x a) b:=by
 rcases h with rfl|h
 ·cases x<;>exact .inl rfl
 exact .inr h.rem
theorem EB.rem:∀ {x a:List (List DC)} {b:List (List PV)},EB a b->EB (UL x a) b
 |[],[],[],_=>trivial
 |[],_::_,_::_,h=>h
 |_::_,[],[],_=>trivial
 |_::_,_::_,_::_,h=>⟨h.1.rem,EB.rem h.2⟩
theorem ES.rem{x d:DS}{s:PS}(h:ES d s):ES (NL x d) s:=⟨h.sl.rem,h.bx.rem,h.hp.rem⟩
theorem ES.put{d:DS}{s:PS}(x:Option Nat)(v:DV)(h:ES d s):ES (d.put x v) (s.put x v.enc):=by
 cases x with
 |none=>exact h
 | some n=>
   simp only[DS.put,PS.put,J9];by_cases b:v.own=true
   ·rw[Ad b,Ad b];exact⟨(h.sl.put n (.inr rfl)).clr _,h.bx,h.hp⟩
   rw[Ae b,Ae b];exact⟨h.sl.put n (.inr rfl),h.bx,h.hp⟩
theorem TD(v:V)(h:Ku v≠.any):(Ku v).enc=BT v:=by
 cases v<;>first|rfl|skip
 case f8 vs=>cases vs<;>rfl
theorem Fz{d:DS}{s:PS}(x:T_)(h:ES d s)(b:(Bx x d).1.ok=true):(f' x s).1=(Bx x d).1.enc/\ES (Bx x d).2 (f' x s).2:=by
 cases x with
 | c v=>
   refine⟨?_,h⟩;refine(TD v λq=>?_).symm;simp only[Bx,q,DV.ok,AZ]at b
 | t n =>
   simp only[Bx,UI,f',Gm]at b ⊢;rcases h.sl.get n with g|g
   ·rw[g]at b;simp only[DV.own,AZ,A5,DV.ok]at b
   rw[g,J9,Yc];by_cases i:(Bu d.sl n).own=true
   ·simp only[i,AX]at b ⊢;by_cases j:(Bu d.sl n).i6 (.s n)=true
    ·simp only[j,AX,DV.ok,AZ]at b
    simp only[j]at b ⊢;exact⟨rfl,(h.sl.put n (.inl rfl)).clr _,h.bx,h.hp⟩
   simp only[i]at b ⊢;exact⟨rfl,h⟩
theorem ZhU(v:DV)(h:v.cell=true):v.enc.cell=true:=by
 cases v<;>first|rfl|cases h|skip
 case nil q=>cases q<;>first|rfl|cases h
 case sl q r l=>cases q<;>first|rfl|cases h
theorem Oy:∀(l:List DV),D3 l=true->BV (DV.d8 l)=true
 |[],_=>rfl
 | v::r,h=>by
   simp only[D3,Aj]at h;simp only[DV.d8,BV,ZhU v h.1,Oy r h.2,DJ]
theorem ZiD(v:DV)(h:v.cell=true):v.ok=true:=by cases v<;>first|rfl|cases h
theorem mT:∀(l:List DV),D3 l=true->DV.okL l=true
 |[],_=>rfl
 | v::r,h=>by
   simp only[D3,Aj]at h;simp only[DV.okL,ZiD v h.1,mT r h.2,DJ]
theorem MU(v:DV):v.enc.cells=DV.d8 v.cells:=by cases v<;>rfl
theorem TJ(v:DV)(h:D3 v.cells=true):v.ok=true:=by
 cases v<;>first|rfl|(simp only[DV.cells,D3,DV.cell,Mb,AZ]at h)|skip
 case agg cs=>exact mT cs h
theorem dg(v:DV)(h:v.retc=true):v.enc.retc=true:=by
 cases v<;>first|rfl|cases h|skip
 case nil q=>cases q<;>first|rfl|cases h
 case sl q r l=>cases q<;>first|rfl|cases h
theorem XF:∀(l:List DV),Kl l=true->FI (DV.d8 l)=true
 |[],_=>rfl
 | v::r,h=>by
   simp only[Kl,Aj]at h;simp only[DV.d8,FI,dg v h.1,XF r h.2,DJ]
theorem mF(v:DV)(h:v.retok=true):v.enc.retok=true:=by
 cases v<;>first|rfl|cases h|skip
 case nil q=>exact dg (.nil q) h
 case sl q r l=>exact dg (.sl q r l) h
 case agg cs=>exact XF cs h
theorem nU(v:DV)(h:v.argc=true):v.enc.argc=true:=by cases v<;>first|rfl|cases h
theorem oI:∀(l:List DV),Zb l=true->Kt (DV.d8 l)=true
 |[],_=>rfl
 | v::r,h=>by
   simp only[Zb,Aj]at h;simp only[DV.d8,Kt,nU v h.1,oI r h.2,DJ]
theorem b8(v:DV)(h:v.argok=true):v.enc.argok=true:=by
 cases v<;>first|rfl|cases h|exact nU _ h|skip
 case agg cs=>exact oI cs h
theorem Xm:∀(l:List DV),Js l=true->Ij (DV.d8 l)=true
 |[],_=>rfl
 | v::r,h=>by
   simp only[Js,Aj]at h;simp only[DV.d8,Ij,b8 v h.1,Xm r h.2,DJ]
theorem T_.dev_ev{d:DS}{s:PS}(h:ES d s)(x:T_):EV (x.dev d.sl) (x.t7 s.sl):=by
 cases x with
 |t n=>exact h.sl.get n
 | c v=>
   by_cases b:Ku v= .any
   ·exact .inl b
   exact .inr (TD v b).symm
theorem EV.of{v:DV}{p:PV}(h:EV v p)(b:v≠.any):p=v.enc:=h.resolve_left b
theorem Zb4{op:BinOp}{k:IntKind}{a b:Int}{g:PX}{v:DV}(h:Yi op k a b=some (g,v))(i:g.den):(Em op k a b).map PV.fl=some v.enc:=by
 cases op<;>simp only[Yi,dI,dB,Ap,Aq,reduceCtorEq]at h<;>obtain⟨rfl,rfl⟩:=h<;>simp only[Em,eK,qJ,Zka,Zkg,eX,qp,rZ,qQ,mE,Y8,rI,rU,rV,rO,so,DV.enc,BX.b,Cw]
 ·rw[Ae (show ¬b=0 from i)];rfl
 rw[Ae (show ¬b=0 from i)];rfl
theorem kS{op:BinOp}{k:IntKind}{a b:Int}{g:PX}{v:DV}(h:YQ op k a b=some (g,v))(i:g.den):(OD op k a b).map PV.fl=some v.enc:=by
 cases op<;>simp only[YQ,Ap,Aq,reduceCtorEq]at h<;>obtain⟨rfl,rfl⟩:=h<;>simp only[OD,qO,qX,DV.enc]<;>rw[Ae (show ¬b<0 from Int.not_lt.mpr i)]<;>rfl
theorem Ye{k b:IntKind}(h:IntKind.same k b=true):k=b:=by simpa [IntKind.same]using h
theorem ZeL{op:BinOp}{a b:DV}{p q:PV}{g:PX}{v:DV}(u:EV a p)(t:EV b q)(h:RD op a b=some (g,v))(i:g.den):Rz op p q=some v.enc:=by
 cases a<;>try (simp only[RD,reduceCtorEq]at h)
 case int k a=>
  cases b<;>try (simp only[RD,reduceCtorEq]at h)
  case int k' b=>
   rw[u.of (by simp),t.of (by simp)];simp only[DV.enc,Rz,CO];by_cases h1:op= .shl
   ·subst h1;exact kS h i
   by_cases s:op= .shr
   ·subst s;exact kS h i
   have j:(if IntKind.same k k'=true then Yi op k a b else none)=some (g,v):=(by cases op<;>first|exact h|exact absurd rfl h1|exact absurd rfl s);by_cases n:IntKind.same k k'=true
   ·rw[Ad n]at j;have:=Ye n;subst this;have x:=Zb4 j i;cases op<;>simp only[AX]<;>first|exact x|exact absurd rfl h1|exact absurd rfl s
   rw[Ae n]at j;cases j
 case str a=>
  cases b<;>try (simp only[RD,reduceCtorEq]at h)
  case str b=>
   rw[u.of (by simp),t.of (by simp)];cases op<;>simp only[RD,dB,Ap,Aq,reduceCtorEq]at h<;>obtain⟨rfl,rfl⟩:=h<;>simp only[DV.enc,Rz,CO,qT,r7,rK,BX.b,Cw];rw[Ad (show a.length+b.length<=9223372036854775807 from i)];rfl
theorem fA(x:BX):x.not.b=!x.b:=by cases x<;>simp only[BX.not,BX.b,Ri]
theorem Zkr(x y:BX):(x.eq y).b=(x.b == y.b):=by
 cases x with
 | lit a=>cases y with
   |lit b=>rfl
   |dyn b=>cases a<;>cases b<;>simp only[BX.eq,BX.b,Ri]<;>rfl
 | dyn a=>cases y with
   |lit b=>cases a<;>cases b<;>simp only[BX.eq,BX.b,Ri]<;>rfl
   |dyn b=>simp only[BX.eq,BX.b,qS]
theorem Ze0{i:Bool}{a b:DV}{p q:PV}{g:PX}{v:DV}(n:EV a p)(j:EV b q)(h:Zi i a b=some (g,v)):Uu i p q=some v.enc:=by
 cases a<;>try (simp only[Zi,reduceCtorEq]at h)
 case bool a=>
  cases b<;>try (simp only[Zi,reduceCtorEq]at h)
  case bool b=>
   rw[n.of (by simp),j.of (by simp)];simp only[GS,Ap,Aq]at h;obtain⟨rfl,rfl⟩:=h;cases i<;>simp only[DV.enc,Uu,AX,AZ,A5,fA,Zkr]
theorem ZeB{i:Bool}{a:DV}{p:PV}{g:PX}{v:DV}(j:EV a p)(h:gm i a=some (g,v)):Up i p=some v.enc:=by
 cases a<;>try (simp only[gm,reduceCtorEq]at h)
 case ifc a=>
  rw[j.of (by simp)];simp only[dB,Ap,Aq]at h;obtain⟨rfl,rfl⟩:=h;cases i<;>simp only[DV.enc,Up,AX,AZ,A5,Ri,BX.b]
theorem ZfF{op:UnOp}{a:DV}{p:PV}{g:PX}{v:DV}(b:EV a p)(h:gB op a=some (g,v)):UQ op p=some v.enc:=by
 cases op<;>cases a<;>simp only[gB,GS,dI,Ap,Aq,reduceCtorEq]at h<;>obtain⟨rfl,rfl⟩:=h<;>rw[b.of (by simp)]<;>simp only[DV.enc,UQ,JK,Cw,fA,Zj9]
theorem ZdV{k:IntKind}{a:DV}{p:PV}{g:PX}{v:DV}(b:EV a p)(h:fT k a=some (g,v)):T8 k p=some v.enc:=by
 cases a<;>simp only[fT,dI,Ap,Aq,reduceCtorEq]at h;obtain⟨rfl,rfl⟩:=h;rw[b.of (by simp)];simp only[DV.enc,T8,pk]
theorem ZcY{a:DV}{p:PV}{g:PX}{v:DV}(b:EV a p)(h:fE a=some (g,v)):Yh p=some v.enc:=by
 cases a<;>simp only[fE,GS,Ap,Aq,reduceCtorEq]at h<;>obtain⟨rfl,rfl⟩:=h<;>rw[b.of (by simp)]<;>rfl
theorem ZcK{off:Nat}{a:DV}{p:PV}{g:PX}{v:DV}(b:EV a p)(h:ed off a=some (g,v)):XV off p=some v.enc:=by
 cases a<;>simp only[ed,GS,Ap,Aq,reduceCtorEq]at h<;>obtain⟨rfl,rfl⟩:=h<;>rw[b.of (by simp)]<;>rfl
theorem Zed{a:DV}{p:PV}{g:PX}{v:DV}(b:EV a p)(h:gf a=some (g,v)):UA p=some v.enc:=by
 cases a<;>simp only[gf,dI,Ap,Aq,reduceCtorEq]at h<;>obtain⟨rfl,rfl⟩:=h<;>rw[b.of (by simp)]<;>simp only[DV.enc,UA,Bh,qG,A7]<;>rfl
theorem Zd6{a:DV}{p:PV}{g:PX}{v:DV}(b:EV a p)(h:rT a=some (g,v)):fG p=some v.enc:=by cases h
theorem Zdi{a b:DV}{p q:PV}{g:PX}{v:DV}(n:EV a p)(j:EV b q)(h:qY a b=some (g,v))(i:g.den):dU p q=some v.enc:=by cases h
theorem L0:∀(r:RT) (x:r.D),(RT.enc r x).length=r.w
 |.one _,_=>rfl
 |.cons _ r,x=>by simp only[RT.enc,A0,RT.w,L0 r x.2]
theorem F2(r:RT):∀(l:List r.D),C4 r.w (l.map (RT.enc r))=true
 |[]=>rfl
 |x::l=>by simp only[Cm,C4,L0,beq_self_eq_true,F2 r l,DJ]
theorem Zcs{w:Nat}{x:T_}{a b:DV}{p q:PV}{g:PX}{v:DV}(y:EV a p)(u:EV b q)(h:TN w x a b=some (g,v))(t:g.den):Tx w x p q=some v.enc:=by
 cases a<;>try (simp only[TN,reduceCtorEq]at h)
 case sl q' r l=>
  cases b<;>try (simp only[TN,reduceCtorEq]at h)
  case int k j=>
   rw[y.of (by simp),u.of (by simp)];by_cases n:(r.w == w)=true
   ·rw[Ad n]at h;have i:r.w=w:=(by simpa using n);subst i;cases s:FJ x q' with
    |none=>rw[s]at h;cases h
    | some q2=>
      rw[s]at h;simp only[Ap,Aq]at h;obtain⟨rfl,rfl⟩:=h;simp only[DV.enc,Tx,Bh,fJ];rw[Ad ⟨t.1,t.2,F2 r l⟩,s];rfl
   rw[Ae n]at h;cases h
 case nil q'=>cases b<;>simp only[TN,reduceCtorEq]at h
theorem Ze8{a b:DV}{p q:PV}{g:PX}{v:DV}(j:EV a p)(i:EV b q)(h:gi a b=some (g,v)):Un p q=some v.enc:=by
 unfold gi at h;split at h
 ·simp only[dI,Ap,Aq]at h;obtain⟨rfl,rfl⟩:=h;rw[j.of (by simp),i.of (by simp)];simp only[DV.enc,Un,Zkk]
 cases h
theorem Ze4{a b:DV}{p q:PV}{g:PX}{v:DV}(j:EV a p)(i:EV b q)(h:gr a b=some (g,v)):Uq p q=some v.enc:=by
 unfold gr at h;split at h
 ·simp only[dI,Ap,Aq]at h;obtain⟨rfl,rfl⟩:=h;rw[j.of (by simp),i.of (by simp)];simp only[DV.enc,Uq,ZjK]
 cases h
theorem n_(a b:PX):(a.land b).den↔a.den/\b.den:=by
 cases a<;>cases b<;>simp[PX.land,PX.den]
theorem kJ{d:Nat}{x:Option DV}{y:Option PV}{g:PX}{n:Nat}(b:match x,y with|none,none=>True|some v,some p=>EV v p|_,_=>False)(h:O3 d x=some (g,n))(i:g.den):OT d y=some n:=by
 cases x with
 | none=>
   cases y with
   |none=>simp only[O3,Ap,Aq]at h;rw[<- h.2];rfl
   |some p=>cases b
 | some v=>
   cases y with
   |none=>cases b
   | some p=>
     cases v<;>simp only[O3,Ap,Aq,reduceCtorEq]at h;obtain⟨rfl,rfl⟩:=h;rw[EV.of b (by simp)];simp only[DV.enc,OT,fJ];exact Ad i
theorem Zcf{j hi:Option DV}{b i:Option PV}{a:DV}{p:PV}{g:PX}{v:DV}(n:match j,b with|none,none=>True|some v,some p=>EV v p|_,_=>False)(q:match hi,i with|none,none=>True|some v,some p=>EV v p|_,_=>False)(t:EV a p)(h:qg j hi a=some (g,v))(s:g.den):cv b i p=some v.enc:=by cases h
theorem Zc8{w:Nat}{x:T_}{j hi:Option DV}{i s:Option PV}{a:DV}{p:PV}{g:PX}{v:DV}(D:match j,i with|none,none=>True|some v,some p=>EV v p|_,_=>False)(I:match hi,s with|none,none=>True|some v,some p=>EV v p|_,_=>False)(J:EV a p)(h:eT w x j hi a=some (g,v))(n:g.den):T0 w x i s p=some v.enc:=by
 cases a<;>try (simp only[eT,reduceCtorEq]at h)
 case sl q r t=>
  rw[J.of (by simp)];cases h1:O3 0 j with
  |none=>rw[h1]at h;cases h
  | some x1 =>
    cases C:O3 (lN t) hi with
    |none=>rw[h1,C]at h;cases h
    | some y=>
      obtain⟨N,a⟩:=x1;obtain⟨M,b⟩:=y;rw[h1,C]at h;simp only at h;by_cases z:(r.w == w)=true
      ·rw[Ad z]at h;have u:r.w=w:=(by simpa using z);subst u;cases A:sB x j.isNone q with
       |none=>rw[A]at h;cases h
       | some q'=>
         rw[A]at h;simp only[Ap,Aq]at h;obtain⟨rfl,rfl⟩:=h;rw[n_,n_]at n;have L:=kJ D h1 n.1.1;have F:=kJ I C n.1.2;simp only[Zj]at F;have G:FK x (if i.isNone=true then 0 else 1) q=some q':=by
          have:i.isNone=j.isNone:=(by cases j<;>cases i<;>first|rfl|exact D.elim);rw[this];exact A
         simp only[DV.enc,T0,Bh,L,F,qA,G];rw[Ad ⟨n.2.1,n.2.2.1,n.2.2.2,F2 r t⟩,YY,List.map_drop];rfl
      rw[Ae z]at h;cases h
theorem ZhA(hd:Hd)(p:List Nat)(v:DV):(gd hd p v).enc=Dd hd p v.enc:=by
 cases v<;>first|rfl|skip
 case nil q=>cases q<;>rfl
 case sl q r l=>cases q<;>rfl
theorem TB(hd:Hd):∀(n:Nat) (l:List DV),DV.d8 (Kr hd n l)=HI hd n (DV.d8 l)
 |_,[]=>rfl
 |n,v::r=>by simp only[Kr,DV.d8,HI,ZhA,TB hd (n+1) r]
theorem QL{n:Option Nat}{cs:List DV}{v:DV}(h:Ga n cs=some v):Ee n (DV.d8 cs)=some v.enc:=by
 cases n with
 |some n=>simp only[Ga,Ap]at h;subst h;rfl
 | none=>match cs,h with
   |[x],h=>simp only[Ga,Ap]at h;subst h;rfl
theorem Zdg{off:Nat}{n:Option Nat}{x:T_}{a:DV}{p:PV}{g:PX}{v:DV}(j:EV a p)(h:fD off n x a=some (g,v)):TT off n x p=some v.enc:=by
 cases a<;>try (simp only[fD,reduceCtorEq]at h)
 case agg cs=>
  rw[j.of (by simp)];cases x with
  |c _=>cases h
  | t t =>
    simp only at h;by_cases b:(Nat.ble (off+n.getD 1) cs.length&&DV.okL (Cp cs off (n.getD 1)))=true
    ·rw[Ad b]at h;rw[Aj]at b;cases i:Ga n (Kr (.s t) off (Cp cs off (n.getD 1)))with
     |none=>rw[i]at h;cases h
     | some w=>
       rw[i]at h;simp only[Cw,Ap,Aq]at h;obtain⟨rfl,rfl⟩:=h;have:=QL i;rw[TB,Xw]at this;simp only[DV.enc,TT,F1];rw[Ad (Dp b.1)];exact this
    rw[Ae b]at h;cases h
theorem Zds{a:DV}{p:PV}{g:PX}{v:DV}(b:EV a p)(h:rY a=some (g,v)):fw p=some v.enc:=by cases h
theorem jN:∀ {a b:List DV} {t:BX},MZ a b=some t->∃x y,EF (DV.d8 a)=some x/\EF (DV.d8 b)=some y/\x.length=a.length/\y.length=b.length/\x.all V.flat=true/\y.all V.flat=true/\Ex x y=some t.b
 | [],[],t,h=>by
   simp only[MZ,Ap]at h;subst h;exact⟨[],[],rfl,rfl,rfl,rfl,rfl,rfl,rfl⟩
 | .int k a::x,.int k' b::y,t,h=>by
   unfold MZ at h;by_cases s:IntKind.same k k'=true
   ·rw[Ad s]at h;have:=Ye s;subst this;have n:∀j,MZ x y=some j->t.b=((a == b)&&j.b)->∃i g,EF (DV.d8 (.int k a::x))=some i/\EF (DV.d8 (.int k b::y))=some g/\i.length=(DV.int k a::x).length/\g.length=(DV.int k b::y).length/\i.all V.flat=true/\g.all V.flat=true/\Ex i g=some t.b:=by
     intro j ht u;obtain⟨i,g,h1,G,F,D,C,A,z⟩:=jN ht;refine⟨.int k a::i,.int k b::g,?_,?_,by simp[F],by simp[D],?_,?_,?_⟩
     ·simp only[DV.d8,DV.enc,EF,h1]
     ·simp only[DV.d8,DV.enc,EF,G]
     ·simp only[F7,V.flat,C,DJ]
     ·simp only[F7,V.flat,A,DJ]
     simp only[Ex,Rf,AX];cases q:(a == b)with
     |true=>simp only[z,u,q,Hv]
     |false=>simp only[u,q,Kj]
    split at h
    ·simp only[Ap]at h;subst h;exact n (.lit true) rfl (by simp only[BX.b,Y8,Mb])
    cases ht:MZ x y with
    |none=>rw[ht]at h;cases h
    | some j=>
      rw[ht]at h;simp only[Cw,Ap]at h;subst h;exact n j ht (by simp only[BX.b,Y8,fg])
   rw[Ae s]at h;cases h
theorem Zeh{n:Nat}{i:Bool}{a b:DV}{p q:PV}{g:PX}{v:DV}(u:EV a p)(s:EV b q)(h:Zl n i a b=some (g,v)):Uz n i p q=some v.enc:=by
 cases a<;>try (simp only[Zl,reduceCtorEq]at h)
 case agg a=>
  cases b<;>try (simp only[Zl,reduceCtorEq]at h)
  case agg b=>
   rw[u.of (by simp),s.of (by simp)];by_cases j:(a.length == n&&b.length == n)=true
   ·rw[Ad j]at h;rw[Aj,Bb,Bb]at j;cases ht:MZ a b with
    |none=>rw[ht]at h;cases h
    | some t=>
      rw[ht]at h;simp only[GS,Ap,Aq]at h;obtain⟨rfl,rfl⟩:=h;obtain⟨x,y,h1,G,F,D,C,A,z⟩:=jN ht;simp only[DV.enc,Uz,h1,G];rw[Ad ⟨F.trans j.1,D.trans j.2,C,A⟩,z];cases i<;>simp only[Cw,AX,AZ,A5,fA]
   rw[Ae j]at h;cases h
theorem YM{d:DS}{s:PS}(h:ES d s)(x:Option T_):match x.map (λx=>x.dev d.sl),x.map (λx=>x.t7 s.sl)with|none,none=>True|some v,some p=>EV v p|_,_=>False:=by
 cases x with
 |none=>exact trivial
 |some x=>exact x.dev_ev h
theorem EU{s:PS}{o:Option PV}{v:PV}(h:o=some v):DG s o=some (v,s):=by rw[h];rfl
theorem ZdZ{d:DS}{s:PS}{o:p_}{m:Bool}{g:PX}{v:DV}(hs:ES d s)(h:Rr o (λx=>x.dev d.sl)=some (g,v))(b:g.den):BC m o s=some (v.enc,s):=by
 have E:=λx=>T_.dev_ev hs x;cases o<;>simp only[Rr,reduceCtorEq]at h<;>simp only[BC];case z_ x=>exact EU (ZcY (E x) h)
 case bin op x y=>exact EU (ZeL (E x) (E y) h b)
 case eqB neg x y=>exact EU (Ze0 (E x) (E y) h)
 case eqN neg x y=>
  split at h
  ·exact EU (ZeB (E x) h)
  cases h
 case eqA n neg x y=>exact EU (Zeh (E x) (E y) h)
 case un op x=>exact EU (ZfF (E x) h)
 case conv k x=>exact EU (ZdV (E x) h)
 case bstr x=>exact EU (Zds (E x) h)
 case slice w x lo hi=>exact EU (Zc8 (YM hs lo) (YM hs hi) (E x) h b)
 case substr x lo hi=>exact EU (Zcf (YM hs lo) (YM hs hi) (E x) h b)
 case f5 off a=>exact EU (ZcK (E a) h)
 case field off n x=>exact EU (Zdg (E x) h)
 case m_ w x i=>exact EU (Zcs (E x) (E i) h b)
 case index x i=>exact EU (Zdi (E x) (E i) h b)
 case len x=>exact EU (Zed (E x) h)
 case lenT x=>exact EU (Zd6 (E x) h)
 case minI x y=>exact EU (Ze8 (E x) (E y) h)
 case maxI x y=>exact EU (Ze4 (E x) (E y) h)
theorem dt:∀(l:List DV),DV.okL l=true->EL (news (Ru l)) (Dt (DV.d8 l))
 |[],_=>trivial
 | v::r,h=>by
   simp only[DV.okL,Aj]at h;refine⟨?_,dt r h.2⟩;simp only[J9];by_cases b:v.own=true
   ·rw[Ad b,Ad b];exact .inl rfl
   rw[Ae b,Ae b];exact .inr rfl
theorem EL.spliceE:∀ {a:List DC} {b:List PV} (n:Nat) {g:List DV} {i:List PV},EL a b->EL (Go.Ag.news g) i->EL (J8 a n g) (AY b n i)
 |[],[],_,[],[],_,_=>trivial
 |[],[],_,_::_,_::_,_,_=>trivial
 |_::_,_::_,0,[],[],h,_=>h
 |_::_,_::_,_+1,[],[],h,_=>h
 |_::_,_::_,0,_::_,_::_,h,hv=>⟨hv.1,EL.spliceE 0 h.2 hv.2⟩
 |_::_,_::_,n+1,_::_,_::_,h,hv=>⟨h.1,EL.spliceE n h.2 hv⟩
theorem EBx.to{a:List DC}{b:List PV}(h:EBx a b)(g:0<a.length):EL a b:=by
 rcases h with rfl|h
 ·exact absurd g (Nat.lt_irrefl 0)
 exact h
theorem EBx.s_{a:List DC}{b:List PV}{o n:Nat}(h:EBx a b)(g:o+n<=a.length)(i:DV.okL (Cp (Ct a) o n)=true):o+n<=b.length/\Go.Ag.s_ b o n=DV.d8 (Cp (Ct a) o n):=by
 rcases h with rfl|h
 ·have h0:o=0/\n=0:=(by simp only[A7]at g;omega);rw[h0.1,h0.2];exact⟨Ec _,by cases b<;>rfl⟩
 exact⟨by rw[<- h.len];exact g,h.s_ o n i⟩
theorem EBx.e_{a:List DC}{b:List PV}{o:Nat}{g:List DV}{i:List PV}(h:EBx a b)(j:EL (news g) i)(n:o+g.length<=a.length):EBx (J8 a o g) (AY b o i):=by
 rcases h with rfl|h
 ·have h0:g=[]:=by
   cases g with
   |nil=>rfl
   |cons _ _=>simp only[A0,A7]at n;omega
  subst h0;exact .inl rfl
 exact .inr (h.spliceE o j)
theorem XC:∀(l:List DV) (o n:Nat),o+n<=l.length->(Cp l o n).length=n
 |[],0,0,_=>rfl
 |[],0,_+1,h=>by simp only[A7]at h;omega
 |[],_+1,_,h=>by simp only[A7]at h;omega
 |_::_,0,0,_=>rfl
 |_::r,0,n+1,h=>by simp only[Cp,A0]at h ⊢;rw[XC r 0 n (by omega)]
 |_::r,o+1,n,h=>by simp only[Cp,A0]at h ⊢;exact XC r o n (by omega)
theorem bR:∀(l:List DV),(Ru l).length=l.length
 |[]=>rfl
 |_::r=>by simp only[Ru,A0,bR r]
theorem aT{m:Bool}{i:Nat}{n:Option Nat}{a:DV}{p:PV}{d z:DS}{s:PS}{g:PX}{v:DV}(hs:ES d s)(A:EV a p)(h:Nl m i n a d=some (g,v,z)):∃x,Jq m i n p s=some (v.enc,x)/\ES z x:=by
 cases a<;>try (simp only[Nl,reduceCtorEq]at h)
 case box j o=>
  rw[A.of (by simp)];by_cases u:(i == j&&Nat.ble (o+n.getD 1) (B1 d.bx i).length&&DV.okL (Cp (Ct (B1 d.bx i)) o (n.getD 1)))=true
  ·rw[Ad u]at h;rw[Aj,Aj,Bb]at u;obtain⟨⟨rfl,t⟩,y⟩:=u;have t:=Dp t;obtain⟨h1,C⟩:=(hs.bx.get i).s_ t y;simp only[DV.enc,Jq];rw[Ad ⟨trivial,h1⟩,C];cases m with
   | true=>
     simp only[AX]at h ⊢;cases q:Ga n (Cp (Ct (B1 d.bx i)) o (n.getD 1))with
     |none=>rw[q]at h;cases h
     | some w=>
       rw[q]at h;simp only[Cw,Ap,Aq]at h;obtain⟨_,rfl,rfl⟩:=h;rw[QL q];refine⟨_,rfl,hs.sl.clr _,hs.bx.put i ((hs.bx.get i).e_ (dt _ y) ?_),hs.hp⟩;rw[bR,XC _ _ _ (by rw[XY];exact t)];exact t
   | false=>
     simp only[AZ,A5]at h ⊢;cases q:Ga n (Kr (.b i) o (Cp (Ct (B1 d.bx i)) o (n.getD 1)))with
     |none=>rw[q]at h;cases h
     | some w=>
       rw[q]at h;simp only[Cw,Ap,Aq]at h;obtain⟨_,rfl,rfl⟩:=h;have:=QL q;rw[TB]at this;rw[this];exact⟨_,rfl,hs⟩
  rw[Ae u]at h;cases h
theorem rE{q q':Ql}(h:Px q=some q'):∀(t:CT) (x:t.D),(CT.dv q' t x).enc=Ml q (CT.enc t x)
 |.int _,_|.bool,_|.str,_=>by cases q<;>rfl
 |.ifc,_=>by cases q<;>rfl
 |.sl r,l=>by cases q<;>simp only[Px,Ap,reduceCtorEq]at h<;>subst h<;>rfl
 |.slf r,l=>by cases q<;>simp only[Px,Ap,reduceCtorEq]at h<;>subst h<;>rfl
theorem rD{q q':Ql}(h:Px q=some q'):∀(r:RT) (x:r.D),DV.d8 (r.dv q' x)=Gk q (RT.enc r x)
 |.one t,x=>by simp only[RT.dv,DV.d8,RT.enc,Gk,rE h t x]
 |.cons t r,x=>by simp only[RT.dv,DV.d8,RT.enc,Gk,rE h t x.1,rD h r x.2]
theorem LU(r:RT):∀(l:List r.D) (j:Nat),j<l.length->Bs (l.map (RT.enc r)) j=RT.enc r (l.getD j r.dflt)
 |_::_,0,_=>rfl
 |_::l,j+1,h=>LU r l j (by simpa using h)
theorem bS(q:Ql):∀(l:List PV) (o n:Nat),Gk q (Go.Ag.s_ l o n)=Go.Ag.s_ (Gk q l) o n
 |[],0,0=>rfl
 |[],0,_+1=>rfl
 |[],_+1,_=>rfl
 |_::_,0,0=>rfl
 |c::r,0,n+1=>by simp only[Go.Ag.s_,Gk,bS q r 0 n]
 |_::r,o+1,n=>by simp only[Go.Ag.s_,Gk];exact bS q r o n
theorem Zea{q q':Ql}(h:Px q=some q'):q.isOwn=false:=by cases q<;>first|rfl|cases h
theorem aS{m:Bool}{n:Option Nat}{a:DV}{p:PV}{d D:DS}{s:PS}{g:PX}{v:DV}(hs:ES d s)(C:EV a p)(h:LY m n a d=some (g,v,D))(F:g.den):∃z,Jp m n p s=some (v.enc,z)/\ES D z:=by
 cases a<;>try (simp only[LY,reduceCtorEq]at h)
 case ep q r l j o=>
  rw[C.of (by simp)];cases x:Px q with
  |none=>rw[x]at h;cases h
  | some q'=>
    rw[x]at h;simp only at h;by_cases t:Nat.ble (o+n.getD 1) r.w=true
    ·rw[Ad t]at h;cases b:Ga n (Cp (r.dv q' (So l j r.dflt)) o (n.getD 1))with
     |none=>rw[b]at h;cases h
     | some w=>
       rw[b]at h;simp only[Cw,Ap,Aq]at h;obtain⟨rfl,rfl,rfl⟩:=h;have y:j<l.length:=F;have:=QL b;rw[Xw,rD x,<- bS,fH,<- LU r l j y]at this;simp only[DV.enc,Jp,Bh];rw[Ad ⟨y,by rw[LU r l j y,L0];exact Dp t,Zea x⟩,this];exact⟨_,rfl,hs⟩
    rw[Ae t]at h;cases h
 case ptr i o=>
  rw[C.of (by simp)];by_cases t:(Nat.blt i d.hp.length&&Nat.ble (o+n.getD 1) (B1 d.hp i).length&&DV.okL (Cp (Ct (B1 d.hp i)) o (n.getD 1)))=true
  ·rw[Ad t]at h;rw[Aj,Aj]at t;obtain⟨⟨hi,u⟩,A⟩:=t;have hi:=Dp hi;have u:=Dp u;obtain⟨h1,G⟩:=(hs.hp.get i).s_ u A;simp only[DV.enc,Jp];rw[Ad ⟨by rw[<- hs.hp.len];exact hi,h1⟩,G];cases m with
   | true=>
     simp only[AX]at h ⊢;cases b:Ga n (Cp (Ct (B1 d.hp i)) o (n.getD 1))with
     |none=>rw[b]at h;cases h
     | some w=>
       rw[b]at h;simp only[Cw,Ap,Aq]at h;obtain⟨_,rfl,rfl⟩:=h;rw[QL b];refine⟨_,rfl,hs.sl.clr _,hs.bx,hs.hp.put i ((hs.hp.get i).e_ (dt _ A) ?_)⟩;rw[bR,XC _ _ _ (by rw[XY];exact u)];exact u
   | false=>
     simp only[AZ,A5]at h ⊢;cases b:Ga n (Kr (.h i) o (Cp (Ct (B1 d.hp i)) o (n.getD 1)))with
     |none=>rw[b]at h;cases h
     | some w=>
       rw[b]at h;simp only[Cw,Ap,Aq]at h;obtain⟨_,rfl,rfl⟩:=h;have:=QL b;rw[TB]at this;rw[this];exact⟨_,rfl,hs⟩
  rw[Ae t]at h;cases h
theorem EL.clrD(hd:Hd):∀ {a:List DC} {b:List PV},EL a b->EL (Dv hd a) b
 |[],[],_=>trivial
 | c::_,p::_,h=>by
   refine⟨?_,EL.clrD hd h.2⟩;by_cases g:c.v.i6 hd=true
   ·rw[Ad g];exact .inl rfl
   rw[Ae g];exact h.1
theorem EL.clr2{hd:Hd}{a:List DC}{b:List PV}{x:Bool}{y:Bool}(h:EL a b)(g:x=false->y=false):EL (if x then Dv hd a else a) (if y then Go.Ag.clr hd b else b):=by
 cases x with
 |false=>rw[g rfl];exact h
 | true=>cases y with
   |false=>exact h.clrD hd
   |true=>exact h.clr hd
theorem Zcy{i n:Nat}{a x:T_}{d I:DS}{s:PS}{g:PX}{v:DV}(hs:ES d s)(h:TR i n a x d=some (g,v,I)):∃D,TA i n a x s=some (v.enc,D)/\ES I D:=by
 unfold TR at h;have G:=a.dev_ev hs;generalize hm:Bx x d=w at h;obtain⟨w,d1⟩:=w;simp only at h;generalize a.dev d.sl=av at h G;cases av<;>try (simp only[reduceCtorEq]at h)
 case box j o=>
  by_cases z:(i == j&&Nat.blt i d1.bx.length&&w.cells.length == n&&Nat.ble (o+n) (B1 d1.bx i).length&&D3 w.cells)=true
  ·rw[Ad z]at h;simp only[Aj,Bb]at z;obtain⟨⟨⟨⟨rfl,hi⟩,rfl⟩,b⟩,u⟩:=z;have hi:=Dp hi;have b:=Dp b;have J:=TJ w u;obtain⟨F,t⟩:=Fz x hs (by rw[hm];exact J);rw[hm]at F t;simp only[Ap,Aq]at h;obtain⟨rfl,rfl,rfl⟩:=h;have q:=t.bx.get i;have A:o+w.cells.length<=(Ao (f' x s).2.bx i).length:=by
    rcases q with C|C
    ·rw[C]at b;simp only[A7]at b;omega
    rw[<- C.len];exact b
   simp only[TA,G.of (by simp:DV.box i o≠.any),DV.enc,F,MU,F1,J9];rw[Ad ⟨trivial,by rw[<- t.bx.len];exact hi,trivial,A,Oy _ u⟩];refine⟨_,rfl,t.sl.clr2 λy=>?_,t.bx.put i (q.e_ (EL.news w.cells) b),t.hp⟩;simp only[Cl,B7]at y ⊢;rw[(q.s_ b y.1.1).2,QO];exact⟨y.1.2,y.2⟩
  rw[Ae z]at h;cases h
theorem OL{r' r:RT}{l:List r'.D}{m:List r.D}(h:Io l=some m):r'=r/\l.map (RT.enc r')=m.map (RT.enc r):=by
 unfold Io at h;split at h
 ·rename_i g;have b:=RT.beq_eq g;subst b;simp only[Ap]at h;subst h;exact⟨rfl,rfl⟩
 cases h
theorem fP:∀ {t:CT} {v:DV} {x:t.D},t.of v=some x->v.enc=CT.enc t x
 | .int k,.int k' n,x,h=>by
   have h':(if k=k' then some n else none)=some x:=h;by_cases g:k=k'
   ·subst g;rw[Ad rfl]at h';have:n=x:=Di h';rw[<- this];rfl
   rw[Ae g]at h';cases h'
 | .bool,.bool b,x,h=>by
   have:b.b=x:=Di h;rw[<- this];rfl
 | .str,.str s,x,h=>by
   have:s=x:=Di h;rw[<- this];rfl
 | .ifc,.ifc b,x,h=>by
   have:b=x:=Di h;rw[<- this];rfl
 | .sl r,.nil .own,x,h=>by
   have:([]:List r.D)=x:=Di h;rw[<- this];rfl
 | .sl r,.sl .own r' l,x,h=>by
   show PV.sl .own _=PV.sl .own _;rw[(OL (r:=r) h).2]
 | .slf r,.nil .Z_,x,h=>by
   have:([]:List r.D)=x:=Di h;rw[<- this];rfl
 | .slf r,.sl .Z_ r' l,x,h=>by
   show PV.sl .Z_ _=PV.sl .Z_ _;rw[(OL (r:=r) h).2]
theorem UE:∀ {r:RT} {g:List DV} {x:r.D},r.of g=some x->DV.d8 g=RT.enc r x
 |.one t,[v],x,h=>by simp only[DV.d8,RT.enc,fP (t:=t) h]
 | .cons t r,v::g,x,h=>by
   have h':(match t.of v,r.of g with|some x,some y=>some (x,y)|_,_=>none)=some x:=h;clear h;cases h1:t.of v with
   |none=>rw[h1]at h';cases h'
   | some a=>
     cases i:r.of g with
     |none=>rw[h1,i]at h';cases h'
     | some b=>
       rw[h1,i]at h';have:(a,b)=x:=Di h';rw[<- this];simp only[DV.d8,RT.enc,fP h1,UE i]
theorem qN:∀(t:CT) (x:t.D),(CT.dv .own t x).enc=CT.enc t x
 |.int _,_|.bool,_|.str,_|.ifc,_|.sl _,_|.slf _,_=>rfl
theorem eU:∀(r:RT) (x:r.D),DV.d8 (r.dv .own x)=RT.enc r x
 |.one t,x=>by simp only[RT.dv,DV.d8,RT.enc,qN t x]
 |.cons t r,x=>by simp only[RT.dv,DV.d8,RT.enc,qN t x.1,eU r x.2]
theorem cV(r:RT):∀(l:List r.D) (j:Nat) (y:r.D),Ds (l.map (RT.enc r)) j (RT.enc r y)=(l.set j y).map (RT.enc r)
 |[],_,_=>rfl
 |_::_,0,_=>rfl
 |_::l,j+1,y=>by simp only[Cm,Ds,List.set_cons_succ,cV r l j y]
theorem Zgs(v:DV)(p:List Nat)(h:v.S_ p≠.any):v.enc.S_ p=(v.S_ p).enc:=by
 cases v with
 | agg cs=>
   match p with
   |[]=>exact absurd rfl h
   |[c]=>exact(QX cs c).symm
   |_::_::_=>exact absurd rfl h
 | f8 vs=>
   match p with
   |[]=>exact absurd rfl h
   |[_]=>exact absurd rfl h
   | [i,c]=>
     show Aa (Aa (DV.d8 vs) i).cells c=(HF (HF vs i).cells c).enc;rw[<- QX,MU,<- QX]
   |_::_::_::_=>exact absurd rfl h
 |any=>match p with|[]=>exact absurd rfl h|[0]=>exact absurd rfl h|[_+1]=>exact absurd rfl h|0::_::_=>exact absurd rfl h|(_+1)::_::_=>exact absurd rfl h
 |undef=>match p with|[]=>exact absurd rfl h|[0]=>rfl|[_+1]=>exact absurd rfl h|0::_::_=>exact absurd rfl h|(_+1)::_::_=>exact absurd rfl h
 |bool _=>match p with|[]=>exact absurd rfl h|[0]=>rfl|[_+1]=>exact absurd rfl h|0::_::_=>exact absurd rfl h|(_+1)::_::_=>exact absurd rfl h
 |int _ _=>match p with|[]=>exact absurd rfl h|[0]=>rfl|[_+1]=>exact absurd rfl h|0::_::_=>exact absurd rfl h|(_+1)::_::_=>exact absurd rfl h
 |str _=>match p with|[]=>exact absurd rfl h|[0]=>rfl|[_+1]=>exact absurd rfl h|0::_::_=>exact absurd rfl h|(_+1)::_::_=>exact absurd rfl h
 |ifc _=>match p with|[]=>exact absurd rfl h|[0]=>rfl|[_+1]=>exact absurd rfl h|0::_::_=>exact absurd rfl h|(_+1)::_::_=>exact absurd rfl h
 |nil _=>match p with|[]=>exact absurd rfl h|[0]=>rfl|[_+1]=>exact absurd rfl h|0::_::_=>exact absurd rfl h|(_+1)::_::_=>exact absurd rfl h
 |sl _ _ _=>match p with|[]=>exact absurd rfl h|[0]=>rfl|[_+1]=>exact absurd rfl h|0::_::_=>exact absurd rfl h|(_+1)::_::_=>exact absurd rfl h
 |ep _ _ _ _ _=>match p with|[]=>exact absurd rfl h|[0]=>rfl|[_+1]=>exact absurd rfl h|0::_::_=>exact absurd rfl h|(_+1)::_::_=>exact absurd rfl h
 |box _ _=>match p with|[]=>exact absurd rfl h|[0]=>rfl|[_+1]=>exact absurd rfl h|0::_::_=>exact absurd rfl h|(_+1)::_::_=>exact absurd rfl h
 |ptr _ _=>match p with|[]=>exact absurd rfl h|[0]=>rfl|[_+1]=>exact absurd rfl h|0::_::_=>exact absurd rfl h|(_+1)::_::_=>exact absurd rfl h
theorem HZ{d:DS}{s:PS}(hs:ES d s)(hd:Hd)(p:List Nat)(h:Ck d hd p≠.any):Df s hd p=(Ck d hd p).enc:=by
 cases hd with
 | s t=>
   rcases hs.sl.get t with j|j
   ·simp only[Ck,j]at h;refine absurd ?_ h
    match p with
    |[]=>rfl
    |[0]=>rfl
    |[_+1]=>rfl
    |0::_::_=>rfl
    |(_+1)::_::_=>rfl
   simp only[Ck,Df,j]at h ⊢;exact Zgs _ p h
 | b i=>
   match p with
   |[]=>exact absurd rfl h
   |_::_::_=>exact absurd rfl h
   | [c]=>
     rcases hs.bx.get i with g|g
     ·simp only[Ck,g,Bu]at h;exact absurd rfl h
     exact(g.get c).of h
 | h i=>
   match p with
   |[]=>exact absurd rfl h
   |_::_::_=>exact absurd rfl h
   | [c]=>
     rcases hs.hp.get i with g|g
     ·simp only[Ck,g,Bu]at h;exact absurd rfl h
     exact(g.get c).of h
 |x i=>exact absurd rfl h
theorem ZhD(v:DV)(p:List Nat)(w:DV):v.enc.setc p w.enc=(v.setc p w).enc:=by
 cases v with
 | agg cs=>
   match p with
   |[]=>rfl
   |[c]=>exact congrArg PV.agg (X6 cs c w).symm
   |_::_::_=>rfl
 | f8 vs=>
   match p with
   |[]=>rfl
   |[0]=>rfl
   |[_+1]=>rfl
   |0::_::_=>rfl
   |(_+1)::_::_=>rfl
 |any=>match p with|[]=>rfl|[0]=>rfl|[_+1]=>rfl|0::_::_=>rfl|(_+1)::_::_=>rfl
 |undef=>match p with|[]=>rfl|[0]=>rfl|[_+1]=>rfl|0::_::_=>rfl|(_+1)::_::_=>rfl
 |bool _=>match p with|[]=>rfl|[0]=>rfl|[_+1]=>rfl|0::_::_=>rfl|(_+1)::_::_=>rfl
 |int _ _=>match p with|[]=>rfl|[0]=>rfl|[_+1]=>rfl|0::_::_=>rfl|(_+1)::_::_=>rfl
 |str _=>match p with|[]=>rfl|[0]=>rfl|[_+1]=>rfl|0::_::_=>rfl|(_+1)::_::_=>rfl
 |ifc _=>match p with|[]=>rfl|[0]=>rfl|[_+1]=>rfl|0::_::_=>rfl|(_+1)::_::_=>rfl
 |nil _=>match p with|[]=>rfl|[0]=>rfl|[_+1]=>rfl|0::_::_=>rfl|(_+1)::_::_=>rfl
 |sl _ _ _=>match p with|[]=>rfl|[0]=>rfl|[_+1]=>rfl|0::_::_=>rfl|(_+1)::_::_=>rfl
 |ep _ _ _ _ _=>match p with|[]=>rfl|[0]=>rfl|[_+1]=>rfl|0::_::_=>rfl|(_+1)::_::_=>rfl
 |box _ _=>match p with|[]=>rfl|[0]=>rfl|[_+1]=>rfl|0::_::_=>rfl|(_+1)::_::_=>rfl
 |ptr _ _=>match p with|[]=>rfl|[0]=>rfl|[_+1]=>rfl|0::_::_=>rfl|(_+1)::_::_=>rfl
theorem EBx.put{a:List DC}{b:List PV}{v:DV}{p:PV}(n:Nat)(h:EBx a b)(g:EV v p):EBx (DM a n v) (BW b n p):=by
 rcases h with rfl|h
 ·exact .inl rfl
 exact .inr (h.put n g)
theorem MP{d:DS}{s:PS}(hs:ES d s)(hd:Hd)(p:List Nat)(w:DV)(h:Ck d hd p≠.any):ES (Ir d w hd p) (y_ s w.enc hd p):=by
 cases hd with
 | s t=>
   refine⟨(hs.sl.put t (.inr ?_)).clr _,hs.bx,hs.hp⟩;rcases hs.sl.get t with g|g
   ·simp only[Ck,g]at h;refine absurd ?_ h
    match p with
    |[]=>rfl
    |[0]=>rfl
    |[_+1]=>rfl
    |0::_::_=>rfl
    |(_+1)::_::_=>rfl
   rw[g];exact ZhD _ p w
 | b i=>
   match p with
   |[]=>exact absurd rfl h
   |_::_::_=>exact absurd rfl h
   |[c]=>exact⟨hs.sl.clr _,hs.bx.put i ((hs.bx.get i).put c (.inr rfl)),hs.hp⟩
 | h i=>
   match p with
   |[]=>exact absurd rfl h
   |_::_::_=>exact absurd rfl h
   |[c]=>exact⟨hs.sl.clr _,hs.bx,hs.hp.put i ((hs.hp.get i).put c (.inr rfl))⟩
 |x i=>exact absurd rfl h
theorem ZcJ{n:Nat}{a x:T_}{d d':DS}{s:PS}{g:PX}{v:DV}(hs:ES d s)(h:TO n a x d=some (g,v,d'))(hg:g.den):∃O,Tw n a x s=some (v.enc,O)/\ES d' O:=by
 unfold TO at h;generalize hm:Bx x d=w at h;obtain⟨w,d1⟩:=w;simp only at h;have R:D3 w.cells=true->ES d1 (f' x s).2/\(f' x s).1=w.enc:=λb=>by
  obtain⟨F,t⟩:=Fz x hs (by rw[hm];exact TJ w b);rw[hm]at F t;exact⟨t,F⟩
 split at h
 ·rename_i i o N;by_cases A:(Nat.blt i d1.hp.length&&w.cells.length == n&&Nat.ble (o+n) (B1 d1.hp i).length&&D3 w.cells)=true
  ·rw[Ad A]at h;simp only[Aj,Bb]at A;obtain⟨⟨⟨hi,rfl⟩,u⟩,b⟩:=A;have hi:=Dp hi;have u:=Dp u;obtain⟨t,F⟩:=R b;have z:=a.dev_ev t;rw[N]at z;simp only[Ap,Aq]at h;obtain⟨rfl,rfl,rfl⟩:=h;have D:=t.hp.get i;have L:o+w.cells.length<=(Ao (f' x s).2.hp i).length:=by
    rcases D with M|M
    ·rw[M]at u;simp only[A7]at u;omega
    rw[<- M.len];exact u
   simp only[Tw,z.of (by simp:DV.ptr i o≠.any),DV.enc,F,MU,F1,J9];rw[Ad ⟨by rw[<- t.hp.len];exact hi,trivial,L,Oy _ b⟩];refine⟨_,rfl,t.sl.clr2 λG=>?_,t.bx,t.hp.put i (D.e_ (EL.news w.cells) u)⟩;simp only[Cl,B7]at G ⊢;rw[(D.s_ u G.1.1).2,QO];exact⟨G.1.2,G.2⟩
  rw[Ae A]at h;cases h
 ·rename_i hd p r0 l0 j o N;cases I:Ck d1 hd [p]<;>rw[I]at h<;>try (cases h;done)
  rename_i q r l;cases q<;>try (cases h;done)
  simp only at h;by_cases A:(w.cells.length == n&&Nat.ble (o+n) r.w&&D3 w.cells)=true
  ·rw[Ad A]at h;simp only[Aj,Bb]at A;obtain⟨⟨rfl,u⟩,b⟩:=A;have u:=Dp u;cases C:r.of (Nf (r.dv .own (So l j r.dflt)) o w.cells)with
   |none=>rw[C]at h;cases h
   | some y=>
     rw[C]at h;simp only[Ap,Aq]at h;obtain⟨rfl,rfl,rfl⟩:=h;obtain⟨t,F⟩:=R b;have z:=a.dev_ev t;rw[N]at z;have U:Ck d1 hd [p]≠.any:=(by rw[I];simp);have J:j<l.length:=hg;have e1:=HZ t hd [p] U;rw[I]at e1;have Z:=UE C;rw[W8,eU,fH,<- LU r l j J]at Z;have Y:=MP t hd [p] (.sl .own r (lSet l j y)) U;simp only[Tw,z.of (by simp:DV.ep (.i6 hd [p] true) r0 l0 j o≠.any),DV.enc,F,MU,F1,e1,Bh];rw[Ad ⟨J,trivial,by rw[LU r l j J,L0];exact u,Oy _ b⟩,Z,cV];simp only[DV.enc,fu]at Y;exact⟨_,rfl,by rw[fu];exact Y⟩
  rw[Ae A]at h;cases h
 cases h
theorem lq{m:Bool}{n:Option Nat}{a:DV}{p:PV}{d b:DS}{s:PS}{r:En}{g:PX}{v:DV}(hs:ES d s)(q:EV a p)(h:OZ m n a d=some r)(i:r=some (g,v,b))(j:g.den):Nw m n p s=some (some v.enc)/\b=d:=by cases h
theorem ZeQ{m:Bool}{n:Option Nat}{a:DV}{p:PV}{d:DS}{s:PS}(b:EV a p)(g:a≠.any)(h:OZ m n a d=none):Nw m n p s=none:=rfl
theorem Zfe{i c:Nat}{a:DV}{p:PV}(g:EV a p)(b:a.nestX i c=true):p.nestX i c=true:=by
 rw[g.of (λe=>by rw[e]at b;cases b)];unfold DV.nestX at b;split at b
 ·exact b
 cases b
theorem ZhQ{a:DV}{p:PV}(b:EV a p)(g:a≠.any):p.nest=a.nest:=rfl
theorem Zb6{n:Nat}{hd:Hd}{p k j o:Nat}{w:DV}{i:PV}{d q:DS}{s:PS}{g:PX}{v:DV}(hs:ES d s)(t:EV w i)(h:dH n hd p k j o w d=some (g,v,q))(u:g.den):∃b,dh n hd p k j o i s=some (v.enc,b)/\ES q b:=by cases h
theorem Zd5{d:DS}{s:PS}(x:T_)(h:ES d s)(b:(FE x d).1.ok=true):(fzOut x s).1=(FE x d).1.enc/\ES (FE x d).2 (fzOut x s).2:=by
 cases x with
 | c v=>
   refine⟨?_,h⟩;refine(TD v λq=>?_).symm;simp only[FE,q,DV.ok,AZ]at b
 | t n =>
   simp only[FE,UO,fzOut,Zs]at b ⊢;rcases h.sl.get n with i|i
   ·rw[i]at b;simp only[DV.own,AZ,A5,DV.ok]at b
   rw[i,J9];by_cases j:(Bu d.sl n).own=true
   ·simp only[j,AX]at b ⊢;by_cases g:(Bu d.sl n).retok=true
    ·rw[Ad g,Ad (mF _ g),<- YV];exact⟨rfl,(h.sl.put n (.inr rfl)).clr _,h.bx,h.hp⟩
    rw[Ae g]at b;cases b
   simp only[j]at b ⊢;exact⟨rfl,h⟩
theorem Zie(hd:Hd)(v:DV)(h:v≠.any):(gb hd v).enc=JM hd v.enc:=by
 cases v<;>first|rfl|exact absurd rfl h|skip
 case nil q=>cases q<;>rfl
 case sl q r l=>cases q<;>rfl
 case agg cs=>show PV.agg _=PV.agg _;rw[TB]
 case f8 vs=>
  simp only[gb,DV.enc,JM,QO];split<;>rfl
theorem ZdS{d:DS}{s:PS}(x:T_)(h:ES d s)(b:(L5 x d).1.ok=true):(Nt x s).1=(L5 x d).1.enc/\ES (L5 x d).2 (Nt x s).2:=by
 cases x with
 | c v=>
   refine⟨?_,h⟩;refine(TD v λi=>?_).symm;simp only[L5,i,DV.ok,AZ]at b
 | t n=>
   simp only[L5]at b;have g:Bu d.sl n≠.any:=(by intro e;rw[e]at b;cases b);simp only[L5,Nt];rw[(h.sl.get n).of g,Zie _ _ g];exact⟨rfl,h⟩
theorem J3:∀(l:List V),H8 l=true->l.all V.flat=true/\DV.d8 (HG l)=l.map BT/\D3 (HG l)=true
 |[],_=>⟨rfl,rfl,rfl⟩
 | v::r,h=>by
   simp only[H8,Aj]at h;obtain⟨h1,i,g⟩:=J3 r h.2;have b:(Ku v).cell=true/\(Ku v).enc=BT v:=(by cases v<;>first|exact⟨rfl,rfl⟩|(have:=h.1;cases this));refine⟨by simp only[F7,h.1,h1,DJ],?_,?_⟩
   ·simp only[HG,DV.d8,Cm,i,b.2]
   simp only[HG,D3,b.1,g,DJ]
theorem aZ:∀(j:List (Nat×Nat×T_)) {cs cs':List DV} {d i:DS} {s:PS},ES d s->Ks cs j d=some (cs',i)->∃b,EX (DV.d8 cs) j s=some (DV.d8 cs',b)/\ES i b
 | [],cs,cs',d,i,s,hs,h=>by
   simp only[Ks,Ap,Aq]at h;obtain⟨rfl,rfl⟩:=h;exact⟨s,rfl,hs⟩
 | (off,size,x)::r,cs,cs',d,i,s,hs,h=>by
   unfold Ks at h;by_cases g:((Bx x d).1.cells.length == size&&Nat.ble (off+size) cs.length&&D3 (Bx x d).1.cells)=true
   ·rw[Ad g]at h;simp only[Aj,Bb]at g;obtain⟨⟨h1,u⟩,n⟩:=g;obtain⟨t,q⟩:=Fz x hs (TJ _ n);obtain⟨b,z,y⟩:=aZ r q h;refine⟨b,?_,y⟩;unfold EX;rw[t,MU,F1,F1,Ad ⟨h1,Dp u,Oy _ n⟩,<- W8];exact z
   rw[Ae g]at h;cases h
theorem nf:∀(n:Nat) (l:List DV),DV.d8 (l.take n)=(DV.d8 l).take n
 |0,_=>rfl
 |_+1,[]=>rfl
 |n+1,_::r=>by simp only[fy,DV.d8,nf n r]
theorem mU:∀(n:Nat) (l:List DV),DV.d8 (l.drop n)=(DV.d8 l).drop n
 |0,_=>rfl
 |_+1,[]=>rfl
 |n+1,_::r=>by simp only[List.drop_succ_cons,DV.d8,mU n r]
theorem km(r:RT)(w:Nat):∀(n:Nat) (cs:List DV) (l:List r.D),Q4 r w n cs=some l->ET w n (DV.d8 cs)=l.map (RT.enc r)
 | 0,cs,l,h=>by
   simp only[Q4,Ap]at h;subst h;rfl
 | n + 1,cs,l,h=>by
   unfold Q4 at h;cases h1:r.of (cs.take w)with
   |none=>rw[h1]at h;cases h
   | some x=>
     cases b:Q4 r w n (cs.drop w)with
     |none=>rw[h1,b]at h;cases h
     | some y=>
       rw[h1,b]at h;have:=Di h;subst this;simp only[ET,Cm,<- nf,<- mU,UE h1,km r w n _ y b]
def DSrc.es:DSrc->List (List PV)
 |.nil=>[]|.sl r l=>l.map (RT.enc r)
theorem Us{r:RT}{x:DSrc}{l:List r.D}(h:x.to r=some l):x.es=l.map (RT.enc r):=by
 cases x with
 |nil=>have:=Di h;subst this;rfl
 |sl r' l'=>exact(OL h).2
theorem pH:∀(t:CT) (x:t.D),t.flat=true->(CT.enc t x).flatc=true
 |.int _,_,_|.bool,_,_|.str,_,_|.ifc,_,_=>rfl
theorem qi:∀(r:RT) (x:r.D),r.flat=true->Is (RT.enc r x)=true
 |.one t,x,h=>by simp only[RT.enc,Is,pH t x h,DJ]
 | .cons t r,x,h=>by
   simp only[RT.flat,Aj]at h;simp only[RT.enc,Is,pH t x.1 h.1,qi r x.2 h.2,DJ]
theorem o8(r:RT)(h:r.flat=true):∀(l:List r.D),Kq (l.map (RT.enc r))=true
 |[]=>rfl
 |x::l=>by simp only[Cm,Kq,qi r x h,o8 r h l,DJ]
theorem Zju{w:Nat}{x:DSrc}(h:x.w w=true):C4 w x.es=true:=by
 cases x with
 |nil=>rfl
 | sl r l=>
   have:r.w=w:=(by simpa [DSrc.w]using h);subst this;exact F2 r l
theorem mv_ok{d:DS}{x:T_}(v:DV)(g:x.dev d.sl=v)(i:v.own=true)(j:∀hd,v.i6 hd=false)(q:v.ok=true):(Bx x d).1=v:=by
 cases x with
 |c c=>exact g
 | t n=>
   have b:Bu d.sl n=v:=g;simp only[Bx,UI,b,i,j,AX,AZ,A5]
theorem bC{w:Nat}{y:T_}{d C:DS}{s:PS}{i:DSrc}(hs:ES d s)(h:KA w y d=some (i,C)):∃I,FG w y s=some (i.es,I)/\ES C I:=by
 have n:=y.dev_ev hs;unfold KA at h;unfold FG;cases u:y.dev d.sl with
 | str t=>
   rw[u]at h n;simp only at h;by_cases g:(w == 1)=true
   ·rw[Ad g]at h;simp only[Ap,Aq]at h;obtain⟨rfl,rfl⟩:=h;rw[n.of (by simp)];simp only[DV.enc];rw[Ad (by simpa using g)];refine⟨s,?_,hs⟩;have:(DSrc.sl (.one (.int .u8)) (sRow t)).es=t.map λb=>[PV.fl (.int .u8 b.toNat)]:=by
     unfold DSrc.es;rw[Zj3];clear n u;induction t with
     |nil=>rfl
     |cons b t L=>exact congrArg (List.cons _) L
    rw[this]
   rw[Ae g]at h;cases h
 | nil q=>
   rw[u]at h n;have hp:=n.of (by simp);cases q with
   | own=>
     simp only[Ap,Aq]at h;obtain⟨rfl,rfl⟩:=h;have G:=mv_ok (.nil .own) u rfl (λ_=>rfl) rfl;obtain⟨J,D⟩:=Fz y hs (by rw[G];rfl);rw[hp];exact⟨_,rfl,D⟩
   | Z_=>
     simp only[Ap,Aq]at h;obtain⟨rfl,rfl⟩:=h;rw[hp];exact⟨s,rfl,hs⟩
   | i5 w'=>
     simp only[Ap,Aq]at h;obtain⟨rfl,rfl⟩:=h;rw[hp];exact⟨s,rfl,hs⟩
   | i6 a b c=>
     simp only[Ap,Aq]at h;obtain⟨rfl,rfl⟩:=h;rw[hp];exact⟨s,rfl,hs⟩
   | pre a b=>
     simp only[Ap,Aq]at h;obtain⟨rfl,rfl⟩:=h;rw[hp];exact⟨s,rfl,hs⟩
 | sl q r l=>
   rw[u]at h n;have hp:=n.of (by simp);have j:(if (r.w == w&&r.flat)=true then some (DSrc.sl r l,d)else none)=some (i,C)->C4 w (l.map (RT.enc r))=true/\Kq (l.map (RT.enc r))=true/\i.es=l.map (RT.enc r)/\C=d:=λh=>by
    by_cases g:(r.w == w&&r.flat)=true
    ·rw[Ad g]at h;simp only[Aj,Bb]at g;simp only[Ap,Aq]at h;obtain⟨rfl,rfl⟩:=h;exact⟨g.1▸F2 r l,o8 r g.2 l,rfl,rfl⟩
    rw[Ae g]at h;cases h
   rw[hp];cases q with
   | own=>
     simp only at h;by_cases g:(r.w == w)=true
     ·rw[Ad g]at h;simp only[Ap,Aq]at h;obtain⟨rfl,rfl⟩:=h;have G:=mv_ok (.sl .own r l) u rfl (λ_=>rfl) rfl;obtain⟨J,D⟩:=Fz y hs (by rw[G];rfl);have F:r.w=w:=(by simpa using g);simp only[DV.enc];rw[Ad (F▸F2 r l)];exact⟨_,rfl,D⟩
     rw[Ae g]at h;cases h
   |i5 w'=>cases h
   |Z_=>obtain⟨A,z,x,rfl⟩:=j h;simp only[DV.enc];rw[Ad ⟨A,z⟩,x];exact⟨s,rfl,hs⟩
   |i6 a b c=>obtain⟨A,z,x,rfl⟩:=j h;simp only[DV.enc];rw[Ad ⟨A,z⟩,x];exact⟨s,rfl,hs⟩
   |pre a b=>obtain⟨A,z,x,rfl⟩:=j h;simp only[DV.enc];rw[Ad ⟨A,z⟩,x];exact⟨s,rfl,hs⟩
 |_=>rw[u]at h;cases h
theorem OW{x:DSrc}{r:RT}{l:List r.D}(h:x.to r=some l):x.es.length=l.length:=by rw[Us h,Bh]
theorem mf{w:Nat}{x:T_}{b:DSrc}{d N:DS}{s:PS}{g:PX}{v:DV}(hs:ES d s)(h:NI w x b d=some (g,v,N))(A:g.den):∃M,JI w x b.es s=some (v.enc,M)/\ES N M:=by
 have J:=x.dev_ev hs;unfold NI at h;by_cases h0:(Nat.blt 0 w&&b.w w)=true
 ·simp only [h0,GH,AZ,A5]at h;simp only[Aj]at h0;have i:0<w:=Dp h0.1;unfold JI;cases G:x.dev d.sl with
  | nil q =>
    rw[G]at h J;rw[J.of (by simp)];cases q with
    | own=>
      have j:=mv_ok (.nil .own) G rfl (λ_=>rfl) rfl;obtain⟨O,I⟩:=Fz x hs (by rw[j];rfl);cases b with
      | nil=>
        simp only[Ap,Aq]at h;obtain⟨rfl,rfl,rfl⟩:=h;simp only[DV.enc,DSrc.es,A7,Fg,LW,Rm];rw[Ad ⟨i,rfl,Ec _⟩];exact⟨_,rfl,I⟩
      | sl r l=>
        simp only[Ap,Aq]at h;obtain⟨rfl,rfl,rfl⟩:=h;simp only[DV.enc,DSrc.es,A7,BJ,Bh,CL];rw[Ad ⟨i,rfl,A⟩];exact⟨_,rfl,I⟩
    | i6 hd p t=>
      cases t with
      | false=>cases p with
        |nil=>cases h
        |cons c p=>cases p<;>cases h
      | true=>
        match p,h with
        | [c],h=>
          simp only at h ⊢;cases j:Ck d hd [c]<;>rw[j]at h<;>try (cases h;done)
          rename_i q;cases q<;>try (cases h;done)
          have D:Ck d hd [c]≠.any:=(by rw[j];simp);have C:=HZ hs hd [c] D;rw[j]at C;have F:=MP hs hd [c] .undef D;cases b with
          | nil=>
            simp only[Ap,Aq]at h;obtain⟨rfl,rfl,rfl⟩:=h;simp only[DV.enc,C,DSrc.es,A7,Fg,LW,Rm];rw[Ad ⟨i,rfl,trivial,Ec _⟩];exact⟨_,rfl,F⟩
          | sl r l=>
            simp only[Ap,Aq]at h;obtain⟨rfl,rfl,rfl⟩:=h;simp only[DV.enc,C,DSrc.es,A7,BJ,Bh,CL];rw[Ad ⟨i,rfl,trivial,A⟩];exact⟨_,rfl,F⟩
        |[],h=>cases h
        |_::_::_,h=>cases h
    |_=>cases h
  | sl q r l=>
    rw[G]at h J;rw[J.of (by simp)];cases q with
    | own =>
      simp only at h;by_cases y:(r.w == w)=true
      ·rw[Ad y]at h;have u:r.w=w:=(by simpa using y);cases ht:b.to r with
       |none=>rw[ht]at h;cases h
       | some n=>
         rw[ht]at h;simp only[Ap,Aq]at h;obtain⟨rfl,rfl,rfl⟩:=h;have j:=mv_ok (.sl .own r l) G rfl (λ_=>rfl) rfl;obtain⟨O,I⟩:=Fz x hs (by rw[j];rfl);simp only[DV.enc,Bh,OW ht];rw[Ad ⟨i,u▸F2 r l,A⟩,Us ht];refine⟨_,?_,I⟩;simp only[O7,Gb]
      rw[Ae y]at h;cases h
    | i6 hd p t=>
      cases t with
      | false=>cases p with
        |nil=>cases h
        |cons c p=>cases p<;>cases h
      | true=>
        match p,h with
        | [c],h=>
          simp only at h ⊢;cases j:Ck d hd [c]<;>rw[j]at h<;>try (cases h;done)
          rename_i q z L;cases q<;>try (cases h;done)
          simp only at h;by_cases y:(z.w == w)=true
          ·rw[Ad y]at h;have u:z.w=w:=(by simpa using y);cases ht:b.to z with
           |none=>rw[ht]at h;cases h
           | some n=>
             rw[ht]at h;simp only[Ap,Aq]at h;obtain⟨rfl,rfl,rfl⟩:=h;have D:Ck d hd [c]≠.any:=(by rw[j];simp);have C:=HZ hs hd [c] D;rw[j]at C;have F:=MP hs hd [c] .undef D;simp only[DV.enc,C,Bh,OW ht];rw[Ad ⟨i,u▸F2 z L,A.1,A.2⟩,Us ht];refine⟨_,?_,F⟩;simp only[O7,Gb,DV.enc]
          rw[Ae y]at h;cases h
        |[],h=>cases h
        |_::_::_,h=>cases h
    | pre hd p=>
     match p,h with
     | [c],h=>
       simp only at h ⊢;cases j:Ck d hd [c]<;>rw[j]at h<;>try (cases h;done)
       rename_i q z L;cases q<;>try (cases h;done)
       simp only at h;by_cases y:(z.w == w)=true
       ·rw[Ad y]at h;have u:z.w=w:=(by simpa using y);cases ht:b.to z with
        |none=>rw[ht]at h;cases h
        | some n=>
          rw[ht]at h;simp only[Ap,Aq]at h;obtain⟨rfl,rfl,rfl⟩:=h;have D:Ck d hd [c]≠.any:=(by rw[j];simp);have C:=HZ hs hd [c] D;rw[j]at C;have F:=MP hs hd [c] .undef D;simp only[DV.enc,C,Bh,OW ht];rw[Ad ⟨i,u▸F2 z L,A.1,A.2.1,A.2.2.2⟩,Us ht,Ae (Nat.ne_of_gt A.2.2.1)];refine⟨_,?_,F⟩;simp only[O7,dL,Zj,Gb,YY,DV.enc]
       rw[Ae y]at h;cases h
     |[],h=>cases h
     |_::_::_,h=>cases h
    |_=>cases h
  |_=>rw[G]at h;cases h
 simp only[h0]at h;cases h
theorem mR{b:List V}(h:H8 b=true):EL (news (HG b)) (b.map BT):=by rw[<- (J3 b h).2.1];exact EL.news _
theorem EB.append{c:List DC}{p:List PV}:∀ {a:List (List DC)} {b:List (List PV)},EB a b->EBx c p->EB (a++[c]) (b++[p])
 |[],[],_,h=>⟨h,trivial⟩
 |_::_,_::_,h,h'=>⟨h.1,EB.append h.2 h'⟩
theorem Zcx(r:RT)(x:r.D)(n:Nat):(List.replicate n x).map (RT.enc r)=List.replicate n (RT.enc r x):=by simp
theorem W5{m:Bool}{o:p_}{ty:Option RT}{d R:DS}{s:PS}{g:PX}{v:DV}(hs:ES d s)(h:BD m o ty d=some (g,v,R))(C:g.den):∃u,BC m o s=some (v.enc,u)/\ES R u:=by
 have E:=λx=>T_.dev_ev hs x;have N:(Rr o (λx=>x.dev d.sl)).map (λr=>(r.1,r.2,d))=some (g,v,R)->∃u,BC m o s=some (v.enc,u)/\ES R u:=λh=>by
  cases hp:Rr o (λx=>x.dev d.sl)with
  |none=>rw[hp]at h;cases h
  | some r=>
    obtain⟨g1,v1⟩:=r;rw[hp]at h;simp only[Cw,Ap,Aq]at h;obtain⟨rfl,rfl,rfl⟩:=h;exact⟨s,ZdZ hs hp C,hs⟩
 cases o<;>first|exact N h|skip
 case mv x=>
  cases m with
  | false=>
    simp only[BD,AZ,A5]at h;by_cases J:(Bx x d).1.ok=true
    ·rw[Ad J]at h;simp only[Ap,Aq]at h;obtain⟨rfl,rfl,rfl⟩:=h;obtain⟨I,A⟩:=Fz x hs J;exact⟨_,by simp only[BC,AZ,A5,<- I],A⟩
    rw[Ae J]at h;cases h
  | true=>
    simp only[BD,AX]at h;by_cases J:(L5 x d).1.ok=true
    ·rw[Ad J]at h;simp only[Ap,Aq]at h;obtain⟨rfl,rfl,rfl⟩:=h;obtain⟨I,A⟩:=ZdS x hs J;exact⟨_,by simp only[BC,AX,<- I],A⟩
    rw[Ae J]at h;cases h
 case d6 i n a=>exact aT hs (E a) h
 case g9 n a=>
  simp only[BD]at h;cases q:OZ m n (a.dev d.sl) d with
  | none=>
    rw[q]at h;obtain⟨u,h1,G⟩:=aS hs (E a) h C;refine⟨u,?_,G⟩;have f9:a.dev d.sl≠.any:=by
     intro e;simp only[e,LY]at h;cases h
    simp only[BC,ZeQ (s:=s) (E a) f9 q];exact h1
  | some r=>
    rw[q]at h;obtain⟨h1,rfl⟩:=lq hs (E a) q h C;exact⟨s,by simp only[BC,h1];rfl,hs⟩
 case loadX i c n a=>
  simp only[BD]at h;split at h
  ·rename_i M;cases q:OZ m n (a.dev d.sl) d with
   |none=>rw[q]at h;cases h
   | some r=>
     rw[q]at h;obtain⟨h1,rfl⟩:=lq hs (E a) q h C;exact⟨s,by simp only[BC,Zfe (E a) M,AX,h1];rfl,hs⟩
  cases h
 case U_ i n a x=>exact Zcy hs h
 case f6 n a x=>
  simp only[BD]at h;split at h
  ·rename_i d9;have q:=ZhQ (E a) (λe=>by rw[e]at d9;cases d9);split at h
   ·rename_i hd p k j o hm;obtain⟨u,h1,G⟩:=Zb6 hs (E x) h C;exact⟨u,by simp only[BC,q,hm];exact h1,G⟩
   rename_i hm;obtain⟨u,h1,G⟩:=ZcJ hs h C;exact⟨u,by simp only[BC,q,hm];exact h1,G⟩
  cases h
 case appN w x y=>
  simp only[BD]at h;split at h
  ·rename_i M;cases h1:KA w y d with
   |none=>rw[h1]at h;cases h
   | some r=>
     obtain⟨Y,d1⟩:=r;rw[h1]at h;obtain⟨s1,F,L⟩:=bC hs h1;obtain⟨U,e3,e4⟩:=mf L h C;have ex:=(E x).of (by rw[M];simp);rw[M]at ex;exact⟨U,by simp only[BC,ex,DV.enc,F];exact e3,e4⟩
  cases h
 case app w x y=>
  simp only[BD]at h;cases h1:KA w y d with
  |none=>rw[h1]at h;cases h
  | some r=>
    obtain⟨Y,d1⟩:=r;rw[h1]at h;obtain⟨s1,F,L⟩:=bC hs h1;obtain⟨U,e3,e4⟩:=mf L h C;exact⟨U,by simp only[BC,F];exact e3,e4⟩
 case d7 i zs=>
  simp only[BD]at h;by_cases b:(Nat.blt i d.bx.length&&H8 zs)=true
  ·rw[Ad b]at h;simp only[Aj]at b;simp only[Ap,Aq]at h;obtain⟨rfl,rfl,rfl⟩:=h;simp only[BC];rw[Ad ⟨by rw[<- hs.bx.len];exact Dp b.1,(J3 zs b.2).1⟩];exact⟨_,rfl,(hs.sl.r_ i).clr _,hs.bx.put i (.inr (mR b.2)),hs.hp⟩
  rw[Ae b]at h;cases h
 case boxB i n x=>
  simp only[BD]at h;by_cases b:(Nat.blt i (Bx x d).2.bx.length&&(Bx x d).1.cells.length == n&&D3 (Bx x d).1.cells)=true
  ·rw[Ad b]at h;simp only[Aj,Bb]at b;obtain⟨⟨h1,rfl⟩,D⟩:=b;obtain⟨I,A⟩:=Fz x hs (TJ _ D);simp only[Ap,Aq]at h;obtain⟨rfl,rfl,rfl⟩:=h;simp only[BC,I,MU,F1];rw[Ad ⟨by rw[<- A.bx.len];exact Dp h1,trivial,Oy _ D⟩];exact⟨_,rfl,(A.sl.r_ i).clr _,A.bx.put i (.inr (EL.news _)),A.hp⟩
  rw[Ae b]at h;cases h
 case allocH zs=>
  simp only[BD]at h;by_cases b:H8 zs=true
  ·rw[Ad b]at h;simp only[Ap,Aq]at h;obtain⟨rfl,rfl,rfl⟩:=h;simp only[BC];rw[Ad (J3 zs b).1,<- hs.hp.len];exact⟨_,rfl,hs.sl.clr _,hs.bx,hs.hp.append (.inr (mR b))⟩
  rw[Ae b]at h;cases h
 case boxH n x=>
  simp only[BD]at h;by_cases b:((Bx x d).1.cells.length == n&&D3 (Bx x d).1.cells)=true
  ·rw[Ad b]at h;simp only[Aj,Bb]at b;obtain⟨rfl,D⟩:=b;obtain⟨I,A⟩:=Fz x hs (TJ _ D);simp only[Ap,Aq]at h;obtain⟨rfl,rfl,rfl⟩:=h;simp only[BC,I,MU,F1];rw[Ad ⟨trivial,Oy _ D⟩,<- A.hp.len];exact⟨_,rfl,A.sl.clr _,A.bx,A.hp.append (.inr (EL.news _))⟩
  rw[Ae b]at h;cases h
 case build zs ps=>
  simp only[BD]at h;by_cases b:H8 zs=true
  ·rw[Ad b]at h;cases O:Ks (HG zs) ps d with
   |none=>rw[O]at h;cases h
   | some r=>
     obtain⟨cs,d1⟩:=r;rw[O]at h;simp only[Ap,Aq]at h;obtain⟨rfl,rfl,rfl⟩:=h;obtain⟨u,F,L⟩:=aZ ps hs O;rw[(J3 zs b).2.1]at F;simp only[BC];rw[Ad (J3 zs b).1,F];exact⟨u,rfl,L⟩
  rw[Ae b]at h;cases h
 case mkSlice w z len=>
  simp only[BD]at h;cases he:len.dev d.sl with
  | int k n=>
    rw[he]at h;cases k<;>try (cases h)
    simp only at h;split at h
    ·rename_i r hr;split at h
     ·rename_i x M;split at h
      ·rename_i b;simp only[Aj,Bb]at b;obtain⟨⟨⟨h1,G⟩,D⟩,h4⟩:=b;simp only[Ap,Aq]at h;obtain⟨rfl,rfl,rfl⟩:=h;have hp:=E len;rw[he]at hp;simp only[BC,hp.of (by simp),DV.enc];rw[Ad ⟨C.1,h1,Dp D,(J3 z h4).1,C.2⟩];refine⟨s,?_,hs⟩;rw[rF];rw[Zcx,<- UE M,(J3 z h4).2.1]
      cases h
     cases h
    cases h
  |_=>rw[he]at h;cases h
 case d4 w n zs ps=>
  simp only[BD]at h;by_cases q:(n == 0)=true
  ·rw[Ad q]at h;simp only[Ap,Aq]at h;obtain⟨rfl,rfl,rfl⟩:=h;simp only[BC];rw[Ad (by simpa using q)];refine⟨s,?_,hs⟩;cases ty<;>rfl
  rw[Ae q]at h;split at h
  ·rename_i b;simp only[Aj,Bb]at b;obtain⟨⟨h1,G⟩,D⟩:=b;split at h
   ·rename_i cs d1 O;split at h
    ·rename_i r hr;split at h
     ·split at h
      ·rename_i l hl;simp only[Ap,Aq]at h;obtain⟨rfl,rfl,rfl⟩:=h;obtain⟨u,F,L⟩:=aZ ps hs O;rw[(J3 zs h1).2.1]at F;simp only[BC];rw[Ae (by simpa using q),Ad ⟨(J3 zs h1).1,G,Dp D⟩,F];refine⟨u,?_,L⟩;simp only[Cw,DV.enc,km r w n cs l hl]
      cases h
     cases h
    cases h
   cases h
  cases h
 case extract x i=>
  simp only[BD]at h;cases x with
  |c v=>cases h
  | t t =>
    simp only at h;have ht:EV (Bu d.sl t) (Aa s.sl t):=hs.sl.get t;cases hv:Bu d.sl t with
    | f8 vs=>
      rw[hv]at h ht;simp only at h;have hp:Aa s.sl t= .f8 (DV.d8 vs):=ht.of (by simp);split at h
      ·rename_i b;simp only[Aj]at b;simp only[BC,hp];rw[F1,Ad (show i<vs.length from Dp b.1),<- QX,J9,Yc];split at h
       ·rename_i Z;rw[Ad Z];split at h
        ·cases h
        rename_i hb;rw[Ae hb];simp only[Ap,Aq]at h;obtain⟨rfl,rfl,rfl⟩:=h;refine⟨_,rfl,?_,hs.bx,hs.hp⟩;refine(EL.put t hs.sl (.inr ?_)).clr _;show PV.f8 _=PV.f8 _;rw[X6];rfl
       rename_i Z;rw[Ae Z];simp only[Ap,Aq]at h;obtain⟨rfl,rfl,rfl⟩:=h;exact⟨_,rfl,hs⟩
      cases h
    |_=>rw[hv]at h;cases h
theorem dN{w:Nat}{b:DSrc}{r:RT}{n:List r.D}(h:b.to r=some n)(l:List r.D)(g:r.w=w):l.map (RT.enc r)++b.es=(l++n).map (RT.enc r)/\C4 w (l.map (RT.enc r)++b.es)=true:=by
 have:l.map (RT.enc r)++b.es=(l++n).map (RT.enc r):=by rw[Us h,Gb]
 exact⟨this,by rw[this];exact g▸F2 r (l++n)⟩
theorem YI{w:Nat}{es:List (List PV)}(h:C4 w es=true):Ft [(0,w)] (.sl .own es)=some (.sl (.i5 w) es):=by
 show FQ w (.sl .own es)=_;simp only[FQ];rw[Ad (.inr h)]
theorem ZiQ{w:Nat}{es:List (List PV)}:Ft [(0,w)] (.sl (.i5 w) es)=some (.sl (.i5 w) es):=by
 show FQ w (.sl (.i5 w) es)=_;unfold FQ;exact Ad (.inr rfl)
theorem Ub{w:Nat}{es:List (List PV)}{c:Prop} [Decidable c](h:C4 w es=true):Ft [(0,w)] (.sl (if c then .i5 w else .own) es)=some (.sl (.i5 w) es):=by
 split
 ·exact ZiQ
 exact YI h
theorem Zd2{w:Nat}{x:T_}{i:DSrc}{d d':DS}{s:PS}{g:PX}{v:DV}(hs:ES d s)(h:UC w x i d=some (g,v,d'))(z:g.den):∃U O,JI w x i.es s=some (O,U)/\Ft [(0,w)] O=some v.enc/\ES d' U:=by
 have L:=x.dev_ev hs;unfold UC at h;by_cases h0:(Nat.blt 0 w&&i.w w)=true
 ·simp only [h0,GH,AZ,A5]at h;simp only[Aj]at h0;have j:0<w:=Dp h0.1;have C:=Zju h0.2;unfold JI;cases F:x.dev d.sl with
  | nil q =>
    rw[F]at h L;rw[L.of (by simp)];cases q with
    | own=>
      have y:=mv_ok (.nil .own) F rfl (λ_=>rfl) rfl;obtain⟨M,A⟩:=Fz x hs (by rw[y];rfl);simp only[DV.enc,A7,BJ,CL];cases i with
      | nil=>
        simp only[Nu,Ap,Aq]at h;obtain⟨rfl,rfl,rfl⟩:=h;rw[Ad ⟨j,rfl,by simp[DSrc.es,AE]⟩];exact⟨_,_,rfl,YI C,A⟩
      | sl r l=>
        simp only[Nu,Ap,Aq]at h;obtain⟨rfl,rfl,rfl⟩:=h;rw[Ad ⟨j,rfl,by simpa [DSrc.es,PX.den]using z⟩];exact⟨_,_,rfl,YI C,A⟩
    | i5 w'=>
      simp only at h;by_cases b:(w' == w)=true
      ·rw[Ad b]at h;have b:w'=w:=(by simpa using b);subst b;have y:=mv_ok (.nil (.i5 w')) F rfl (λ_=>rfl) rfl;obtain⟨M,A⟩:=Fz x hs (by rw[y];rfl);simp only[DV.enc,A7,BJ,CL];cases i with
       | nil=>
         simp only[Nu,Ap,Aq]at h;obtain⟨rfl,rfl,rfl⟩:=h;rw[Ad ⟨j,trivial,rfl,by simp[DSrc.es,AE]⟩];exact⟨_,_,rfl,Ub C,A⟩
       | sl r l=>
         simp only[Nu,Ap,Aq]at h;obtain⟨rfl,rfl,rfl⟩:=h;rw[Ad ⟨j,trivial,rfl,by simpa [DSrc.es,PX.den]using z⟩];exact⟨_,_,rfl,Ub C,A⟩
      rw[Ae b]at h;cases h
    |_=>cases h
  | sl q r l=>
    rw[F]at h L;rw[L.of (by simp)];cases q with
    | own =>
      simp only at h;by_cases t:(r.w == w)=true
      ·rw[Ad t]at h;have b:r.w=w:=(by simpa using t);cases ht:i.to r with
       |none=>rw[ht]at h;cases h
       | some n=>
         rw[ht]at h;simp only[Ap,Aq]at h;obtain⟨rfl,rfl,rfl⟩:=h;have y:=mv_ok (.sl .own r l) F rfl (λ_=>rfl) rfl;obtain⟨M,A⟩:=Fz x hs (by rw[y];rfl);obtain⟨I,G⟩:=dN ht l b;simp only[DV.enc,Bh,OW ht];rw[Ad ⟨j,b▸F2 r l,z⟩];exact⟨_,_,rfl,by rw[YI G,I];simp only[O7],A⟩
      rw[Ae t]at h;cases h
    | i5 w'=>
      simp only at h;by_cases t:(w' == w&&r.w == w)=true
      ·rw[Ad t]at h;simp only[Aj,Bb]at t;obtain⟨rfl,b⟩:=t;cases ht:i.to r with
       |none=>rw[ht]at h;cases h
       | some n=>
         rw[ht]at h;simp only[Ap,Aq]at h;obtain⟨rfl,rfl,rfl⟩:=h;have y:=mv_ok (.sl (.i5 w') r l) F rfl (λ_=>rfl) rfl;obtain⟨M,A⟩:=Fz x hs (by rw[y];rfl);obtain⟨I,G⟩:=dN ht l b;simp only[DV.enc,Bh,OW ht];rw[Ad ⟨j,trivial,b▸F2 r l,z⟩];exact⟨_,_,rfl,by rw[Ub G,I];simp only[O7],A⟩
      rw[Ae t]at h;cases h
    | pre hd p=>
     match p,h with
     | [c],h=>
       simp only at h ⊢;cases y:Ck d hd [c]<;>rw[y]at h<;>try (cases h;done)
       rename_i q u J;have Y:Ck d hd [c]≠.any:=(by rw[y];simp);have N:=HZ hs hd [c] Y;rw[y]at N;have Z:=MP hs hd [c] .undef Y;have R:∀ {n:List u.D},i.to u=some n->u.w=w->(J.map (RT.enc u)).take l.length++i.es=(i9 (lTake J (lN l)) n).map (RT.enc u)/\C4 w ((J.map (RT.enc u)).take l.length++i.es)=true:=by
        intro n ht b;have:=dN ht (J.take l.length) b;rw[YY]at this;simp only[O7,dL,Zj];exact this
       cases q<;>try (cases h;done)
       case own=>
        simp only at h;by_cases t:(u.w == w)=true
        ·rw[Ad t]at h;have b:u.w=w:=(by simpa using t);cases ht:i.to u with
         |none=>rw[ht]at h;cases h
         | some n=>
           rw[ht]at h;simp only[Ap,Aq]at h;obtain⟨rfl,rfl,rfl⟩:=h;obtain⟨I,G⟩:=R ht b;simp only[DV.enc,N,Bh,OW ht];rw[Ad ⟨j,b▸F2 u J,z.1,z.2.1,z.2.2⟩];exact⟨_,_,rfl,by rw[Ub G,I],Z⟩
        rw[Ae t]at h;cases h
       case i5 w'=>
        simp only at h;by_cases t:(w' == w&&u.w == w)=true
        ·rw[Ad t]at h;simp only[Aj,Bb]at t;obtain⟨rfl,b⟩:=t;cases ht:i.to u with
         |none=>rw[ht]at h;cases h
         | some n=>
           rw[ht]at h;simp only[Ap,Aq]at h;obtain⟨rfl,rfl,rfl⟩:=h;obtain⟨I,G⟩:=R ht b;simp only[DV.enc,N,Bh,OW ht];rw[Ad ⟨j,trivial,b▸F2 u J,z.1,z.2.1,z.2.2⟩];exact⟨_,_,rfl,by rw[Ub G,I],Z⟩
        rw[Ae t]at h;cases h
     |[],h=>cases h
     |_::_::_,h=>cases h
    |_=>cases h
  |_=>rw[F]at h;cases h
 simp only[h0]at h;cases h
theorem fk{w:Nat}{v v':DV}(h:UN w v=some v'):FQ w v.enc=some v'.enc:=by
 unfold UN at h;split at h
 ·cases h;simp only[DV.enc,FQ];rw[Ad (.inr rfl)]
 ·split at h
  ·rename_i b;simp only[Ce,Bb]at b;cases h;simp only[DV.enc,FQ];rw[Ad b]
  cases h
 ·rename_i r l;split at h
  ·rename_i b;simp only[Ce,Bb]at b;cases h;simp only[DV.enc,FQ];rw[Ad (b.imp id λb=>b▸F2 r l)]
  cases h
 ·split at h
  ·rename_i b;simp only[Ce,Bb]at b;cases h;simp only[DV.enc,FQ];rw[Ad b]
  cases h
 cases h
theorem qI:∀(ws:List (Nat×Nat)) {l l':List DV},Zp ws l=some l'->PC ws (DV.d8 l)=some (DV.d8 l')
 |[],l,l',h=>by cases h;rfl
 | (c,w)::r,l,l',h=>by
   unfold Zp at h;split at h
   ·rename_i v b;unfold PC;rw[<- QX,fk b];simp only;rw[<- X6];exact qI r h
   cases h
theorem Zk0{ws:List (Nat×Nat)}{v v':DV}(h:PA ws v=some v'):Ft ws v.enc=some v'.enc:=by
 unfold PA at h;split at h
 ·simp only[Ch]at h;obtain⟨l',h1,rfl⟩:=h;show (PC ws _).map PV.agg=_;rw[qI ws h1];rfl
 ·rename_i q;split at h
  ·exact fk (v:=.nil q) h
  cases h
 ·rename_i q r l;split at h
  ·exact fk (v:=.sl q r l) h
  cases h
 cases h
theorem Zdp{ws:List (Nat×Nat)}{m:Bool}{o:p_}{ty:Option RT}{d j:DS}{s:PS}{g:PX}{v:DV}(hs:ES d s)(h:O6 ws m o ty d=some (g,v,j))(A:g.den):∃i b,BC m o s=some (b,i)/\Ft ws b=some v.enc/\ES j i:=by
 have t:(match BD m o ty d with|some (g,v,st)=>(match PA ws v with|some v=>some (g,v,st)|none=>none)|none=>none)=some (g,v,j)->∃i b,BC m o s=some (b,i)/\Ft ws b=some v.enc/\ES j i:=by
  intro h;cases h1:BD m o ty d with
  |none=>rw[h1]at h;cases h
  | some r=>
    obtain⟨M,C,d1⟩:=r;rw[h1]at h;simp only at h;cases q:PA ws C with
    |none=>rw[q]at h;cases h
    | some v2=>
      rw[q]at h;simp only[Ap,Aq]at h;obtain⟨rfl,rfl,rfl⟩:=h;obtain⟨i,z,u⟩:=W5 hs h1 A;exact⟨i,_,z,Zk0 q,u⟩
 cases o<;>first|exact t h|skip
 case app w x y=>
  simp only[O6]at h;split at h
  ·rename_i w';split at h
   ·rename_i n;have n:=Bb.mp n;subst n;cases h1:KA w' y d with
    |none=>rw[h1]at h;cases h
    | some r=>
      obtain⟨F,d1⟩:=r;rw[h1]at h;obtain⟨L,z,u⟩:=bC hs h1;obtain⟨D,b,J,I,G⟩:=Zd2 u h A;exact⟨D,b,by simp only[BC,z];exact J,I,G⟩
   cases h
  cases h
def Chg:List DC->List DC->Prop
 |_,[]=>True|[],c::r=>c.d=true/\Chg [] r|b::a,c::r=>(c.d=true\/c=b)/\Chg a r
def i_:List (List DC)->List (List DC)->Prop
 |_,[]=>True|[],c::r=>Chg [] c/\i_ [] r|b::a,c::r=>Chg b c/\i_ a r
structure d_ (x y:DS):Prop where
 sl:Chg x.sl y.sl
 bx:i_ x.bx y.bx
 hp:i_ x.hp y.hp
theorem Chg.refl:∀(x:List DC),Chg x x
 |[]=>trivial
 |_::r=>⟨.inr rfl,Chg.refl r⟩
theorem Chg.trans:∀ {x y z:List DC},Chg x y->Chg y z->Chg x z
 |_,_,[],_,_=>by cases ‹List DC›<;>trivial
 |[],[],_::_,_,h=>h
 |_::a,[],c::r,_,h=>⟨.inl h.1,Chg.trans (x:=a) (y:=[]) (by cases a<;>trivial) h.2⟩
 | [],b::a,c::r,h,h'=>by
   refine⟨?_,Chg.trans h.2 h'.2⟩;rcases h'.1 with h1|h1
   ·exact h1
   rw[h1];exact h.1
 | e::x,b::a,c::r,h,h'=>by
   refine⟨?_,Chg.trans h.2 h'.2⟩;rcases h'.1 with h1|h1
   ·exact .inl h1
   rw[h1];exact h.1
theorem i_.refl:∀(x:List (List DC)),i_ x x
 |[]=>trivial
 |b::r=>⟨Chg.refl b,i_.refl r⟩
theorem i_.trans:∀ {x y z:List (List DC)},i_ x y->i_ y z->i_ x z
 |_,_,[],_,_=>by cases ‹List (List DC)›<;>trivial
 |[],[],_::_,_,h=>h
 |b::a,[],c::r,_,h=>⟨Chg.trans (y:=[]) (by trivial) h.1,i_.trans (x:=a) (y:=[]) (by cases a<;>trivial) h.2⟩
 |[],b::a,c::r,h,h'=>⟨h.1.trans h'.1,i_.trans h.2 h'.2⟩
 |e::x,b::a,c::r,h,h'=>⟨h.1.trans h'.1,i_.trans h.2 h'.2⟩
theorem d_.refl(x:DS):d_ x x:=⟨Chg.refl _,i_.refl _,i_.refl _⟩
theorem d_.trans{x y z:DS}(h:d_ x y)(h':d_ y z):d_ x z:=⟨h.sl.trans h'.sl,h.bx.trans h'.bx,h.hp.trans h'.hp⟩
theorem Chg.put:∀(x:List DC) (n:Nat) (v:DV),Chg x (DM x n v)
 |[],_,_=>trivial
 |_::r,0,_=>⟨.inl rfl,Chg.refl r⟩
 |_::r,n+1,v=>⟨.inr rfl,Chg.put r n v⟩
theorem Chg.clr(hd:Hd):∀(x:List DC),Chg x (Dv hd x)
 |[]=>trivial
 | c::r=>by
   refine⟨?_,Chg.clr hd r⟩;split
   ·exact .inl rfl
   exact .inr rfl
theorem Chg.r_(i:Nat):∀(x:List DC),Chg x (Tm i x)
 |[]=>trivial
 | c::r=>by
   refine⟨?_,Chg.r_ i r⟩;split
   ·exact .inl rfl
   exact .inr rfl
theorem Chg.keep(live:List Nat):∀(n:Nat) (x:List DC),Chg x (YW live n x)
 |_,[]=>trivial
 | n,c::r=>by
   refine⟨?_,Chg.keep live (n+1) r⟩;split
   ·split
    ·exact .inl rfl
    exact .inr rfl
   exact .inl rfl
theorem Chg.trim(live:List Nat):∀(n:Nat) (x:List DC),Chg x (Y4 live n x)
 |_,[]=>trivial
 | n,c::r=>by
   refine⟨?_,Chg.trim live (n+1) r⟩;split
   ·exact .inr rfl
   exact .inl rfl
theorem Chg.e_:∀(x:List DC) (n:Nat) (b:List DV),Chg x (J8 x n b)
 |[],n,[]=>trivial
 |_::_,0,[]=>Chg.refl _
 |_::_,_+1,[]=>Chg.refl _
 |[],_,_::_=>trivial
 |_::r,0,v::b=>⟨.inl rfl,Chg.e_ r 0 b⟩
 |_::r,n+1,v::b=>⟨.inr rfl,Chg.e_ r n (v::b)⟩
theorem Chg.news:∀(x:List DC) (b:List DV),Chg x (Go.Ag.news b)
 |x,[]=>by cases x<;>trivial
 |[],v::b=>⟨rfl,Chg.news [] b⟩
 |_::a,v::b=>⟨.inl rfl,Chg.news a b⟩
theorem i_.put:∀(x:List (List DC)) (i:Nat) {v:List DC},Chg (B1 x i) v->i_ x (Fk x i v)
 |[],_,_,_=>trivial
 |_::r,0,_,h=>⟨h,i_.refl r⟩
 |_::r,n+1,v,h=>⟨Chg.refl _,i_.put r n h⟩
theorem i_.app:∀(x:List (List DC)) (g:List DV),i_ x (x++[Go.Ag.news g])
 |[],g=>⟨Chg.news [] g,trivial⟩
 |b::r,g=>⟨Chg.refl b,i_.app r g⟩
theorem Chg.rem:∀ {x y:List DC},Chg (Go.Ag.clean x) y->Chg x (RH x y)
 |x,[],_=>by cases x<;>trivial
 |[],_::_,h=>h
 | b :: a,c::r,h=>by
   refine⟨?_,Chg.rem h.2⟩;rcases h.1 with h1|h1
   ·left;simp[h1]
   subst h1;cases g:b.d with
   |true=>left;rfl
   |false=>right;obtain⟨d,v⟩:=b;simp only at g;subst g;rfl
theorem i_.rem:∀ {x y:List (List DC)},i_ (Rg x) y->i_ x (UL x y)
 |x,[],_=>by cases x<;>trivial
 |[],_::_,h=>h
 |b::a,c::r,h=>⟨h.1.rem,i_.rem h.2⟩
theorem d_.rem{x y:DS}(h:d_ x.clean y):d_ x (NL x y):=⟨h.sl.rem,h.bx.rem,h.hp.rem⟩
theorem d_.put(d:DS)(n:Option Nat)(v:DV):d_ d (d.put n v):=by
 cases n with
 |none=>exact d_.refl d
 | some n=>
   simp only[DS.put];split
   ·exact⟨(Chg.put _ _ _).trans (Chg.clr _ _),i_.refl _,i_.refl _⟩
   exact⟨Chg.put _ _ _,i_.refl _,i_.refl _⟩
theorem d_.f'(x:T_)(d:DS):d_ d (Bx x d).2:=by
 cases x with
 |c v=>exact d_.refl d
 | t n=>
   simp only[Bx,UI];split
   ·split
    ·exact d_.refl d
    exact⟨(Chg.put _ _ _).trans (Chg.clr _ _),i_.refl _,i_.refl _⟩
   exact d_.refl d
theorem d_.fzOut(x:T_)(d:DS):d_ d (FE x d).2:=by
 cases x with
 |c v=>exact d_.refl d
 | t n=>
   simp only[FE,UO];split
   ·split
    ·exact⟨(Chg.put _ _ _).trans (Chg.clr _ _),i_.refl _,i_.refl _⟩
    exact d_.refl d
   exact d_.refl d
theorem d_.y_(d:DS)(v:DV):∀(hd:Hd) (p:List Nat),d_ d (Ir d v hd p)
 |.s t,p=>⟨(Chg.put _ _ _).trans (Chg.clr _ _),i_.refl _,i_.refl _⟩
 |.b i,[c]=>⟨Chg.clr _ _,i_.put _ _ (Chg.put _ _ _),i_.refl _⟩
 |.h i,[c]=>⟨Chg.clr _ _,i_.refl _,i_.put _ _ (Chg.put _ _ _)⟩
 |.b i,[]=>d_.refl d
 |.b i,_::_::_=>d_.refl d
 |.h i,[]=>d_.refl d
 |.h i,_::_::_=>d_.refl d
 |.x i,_=>d_.refl d
theorem bV:∀(g:List (Nat×Nat×T_)) {cs cs':List DV} {d b:DS},Ks cs g d=some (cs',b)->d_ d b
 | [],cs,cs',d,b,h=>by
   simp only[Ks,Ap,Aq]at h;obtain⟨_,rfl⟩:=h;exact d_.refl d
 | (off,size,x)::r,cs,cs',d,b,h=>by
   unfold Ks at h;split at h
   ·exact(d_.f' x d).trans (bV r h)
   cases h
theorem cz{w:Nat}{y:T_}{d g:DS}{b:DSrc}(h:KA w y d=some (b,g)):d_ d g:=by
 unfold KA at h;split at h<;>(try split at h)<;>first|(cases h;done)|(simp only[Ap,Aq]at h;obtain⟨_,rfl⟩:=h;first|exact d_.refl _|exact d_.f' y d)
theorem o6{w:Nat}{x:T_}{b:DSrc}{d i:DS}{g:PX}{v:DV}(h:NI w x b d=some (g,v,i)):d_ d i:=by
 unfold NI at h;split at h
 ·cases h
 repeat' split at h
 all_goals first|(cases h;done)|(simp only[Ap,Aq]at h;obtain⟨_,_,rfl⟩:=h;first|exact d_.f' x d|exact d_.y_ _ _ _ _)
theorem bD{m:Bool}{i:Nat}{n:Option Nat}{a:DV}{d b:DS}{g:PX}{v:DV}(h:Nl m i n a d=some (g,v,b)):d_ d b:=by
 unfold Nl at h;split at h
 ·cases m with
  | true=>
    simp only[AX]at h;split at h
    ·simp only[Ch,Aq]at h;obtain⟨_,_,_,_,rfl⟩:=h;exact⟨Chg.clr _ _,i_.put _ _ (Chg.e_ _ _ _),i_.refl _⟩
    cases h
  | false=>
    simp only[AZ,A5]at h;split at h
    ·simp only[Ch,Aq]at h;obtain⟨_,_,_,_,rfl⟩:=h;exact d_.refl _
    cases h
 cases h
theorem bE{m:Bool}{n:Option Nat}{a:DV}{d b:DS}{g:PX}{v:DV}(h:LY m n a d=some (g,v,b)):d_ d b:=by
 unfold LY at h;split at h
 ·cases m with
  | true=>
    simp only[AX]at h;split at h
    ·simp only[Ch,Aq]at h;obtain⟨_,_,_,_,rfl⟩:=h;exact⟨Chg.clr _ _,i_.refl _,i_.put _ _ (Chg.e_ _ _ _)⟩
    cases h
  | false=>
    simp only[AZ,A5]at h;split at h
    ·simp only[Ch,Aq]at h;obtain⟨_,_,_,_,rfl⟩:=h;exact d_.refl _
    cases h
 ·split at h
  ·split at h
   ·simp only[Ch,Aq]at h;obtain⟨_,_,_,_,rfl⟩:=h;exact d_.refl _
   cases h
  cases h
 cases h
theorem ZdX{i n:Nat}{a x:T_}{d b:DS}{g:PX}{v:DV}(h:TR i n a x d=some (g,v,b)):d_ d b:=by
 unfold TR at h;simp only at h;split at h
 ·split at h
  ·simp only[Ap,Aq]at h;obtain⟨_,_,rfl⟩:=h;refine(d_.f' x d).trans ⟨?_,i_.put _ _ (Chg.e_ _ _ _),i_.refl _⟩;split
   ·exact Chg.clr _ _
   exact Chg.refl _
  cases h
 cases h
theorem ZdY{n:Nat}{a x:T_}{d b:DS}{g:PX}{v:DV}(h:TO n a x d=some (g,v,b)):d_ d b:=by
 unfold TO at h;simp only at h;split at h
 ·split at h
  ·simp only[Ap,Aq]at h;obtain⟨_,_,rfl⟩:=h;refine(d_.f' x d).trans ⟨?_,i_.refl _,i_.put _ _ (Chg.e_ _ _ _)⟩;dsimp only;split
   ·exact Chg.clr _ _
   exact Chg.refl _
  cases h
 ·split at h
  ·split at h
   ·split at h
    ·simp only[Ap,Aq]at h;obtain⟨_,_,rfl⟩:=h;exact(d_.f' x d).trans (d_.y_ _ _ _ _)
    cases h
   cases h
  cases h
 cases h
theorem mC{m:Bool}{n:Option Nat}{a:DV}{d b:DS}{r:En}{g:PX}{v:DV}(h:OZ m n a d=some r)(i:r=some (g,v,b)):d_ d b:=by cases h
theorem ZdF{n:Nat}{hd:Hd}{p k j o:Nat}{w:DV}{d b:DS}{g:PX}{v:DV}(h:dH n hd p k j o w d=some (g,v,b)):d_ d b:=by cases h
theorem ZjR(x:T_)(d:DS):(L5 x d).2=d:=by cases x<;>rfl
theorem ZfR{w:Nat}{b:DSrc}{d i:DS}{g:PX}{v:DV}(h:Nu w b d=some (g,v,i)):i=d:=by
 unfold Nu at h;split at h<;>(simp only[Ap,Aq]at h;exact h.2.2.symm)
theorem ZfQ{w:Nat}{x:T_}{b:DSrc}{d i:DS}{g:PX}{v:DV}(h:UC w x b d=some (g,v,i)):d_ d i:=by
 unfold UC at h;split at h
 ·cases h
 repeat' split at h
 all_goals first|(cases h;done)|(have:=ZfR h;subst this;exact d_.f' x d)|(simp only[Ap,Aq]at h;obtain⟨_,_,rfl⟩:=h;first|exact d_.f' x d|exact d_.y_ _ _ _ _)
theorem Xv{m:Bool}{o:p_}{ty:Option RT}{d j:DS}{g:PX}{v:DV}(h:BD m o ty d=some (g,v,j)):d_ d j:=by
 have b:(Rr o (λx=>x.dev d.sl)).map (λr=>(r.1,r.2,d))=some (g,v,j)->d_ d j:=λh=>by
  simp only[Ch,Aq]at h;obtain⟨_,_,_,_,rfl⟩:=h;exact d_.refl _
 cases o<;>first|exact b h|skip
 case mv x=>
  cases m with
  | true=>
    simp only[BD,AX]at h;split at h
    ·simp only[Ap,Aq]at h;obtain⟨_,_,rfl⟩:=h;rw[ZjR];exact d_.refl d
    cases h
  | false=>
    simp only[BD,AZ,A5]at h;split at h
    ·simp only[Ap,Aq]at h;obtain⟨_,_,rfl⟩:=h;exact d_.f' x d
    cases h
 case d6 i n a=>exact bD h
 case g9 n a=>
  simp only[BD]at h;split at h
  ·rename_i h1;exact mC h1 h
  exact bE h
 case loadX i c n a=>
  simp only[BD]at h;split at h
  ·split at h
   ·rename_i h1;exact mC h1 h
   cases h
  cases h
 case U_ i n a x=>exact ZdX h
 case f6 n a x=>
  simp only[BD]at h;split at h
  ·split at h
   ·exact ZdF h
   exact ZdY h
  cases h
 case app w x y=>
  simp only[BD]at h;split at h
  ·rename_i h1;exact(cz h1).trans (o6 h)
  cases h
 case appN w x y=>
  simp only[BD]at h;split at h
  ·split at h
   ·rename_i h1;exact(cz h1).trans (o6 h)
   cases h
  cases h
 case d7 i zs=>
  simp only[BD]at h;split at h
  ·simp only[Ap,Aq]at h;obtain⟨_,_,rfl⟩:=h;exact⟨(Chg.r_ _ _).trans (Chg.clr _ _),i_.put _ _ (Chg.news _ _),i_.refl _⟩
  cases h
 case boxB i n x=>
  simp only[BD]at h;split at h
  ·simp only[Ap,Aq]at h;obtain⟨_,_,rfl⟩:=h;exact(d_.f' x d).trans ⟨(Chg.r_ _ _).trans (Chg.clr _ _),i_.put _ _ (Chg.news _ _),i_.refl _⟩
  cases h
 case allocH zs=>
  simp only[BD]at h;split at h
  ·simp only[Ap,Aq]at h;obtain⟨_,_,rfl⟩:=h;exact⟨Chg.clr _ _,i_.refl _,i_.app _ _⟩
  cases h
 case boxH n x=>
  simp only[BD]at h;split at h
  ·simp only[Ap,Aq]at h;obtain⟨_,_,rfl⟩:=h;exact(d_.f' x d).trans ⟨Chg.clr _ _,i_.refl _,i_.app _ _⟩
  cases h
 case build zs ps=>
  simp only[BD]at h;split at h
  ·split at h
   ·rename_i q;simp only[Ap,Aq]at h;obtain⟨_,_,rfl⟩:=h;exact bV ps q
   cases h
  cases h
 case mkSlice w z len=>
  simp only[BD]at h;repeat' split at h
  all_goals first|(cases h;done)|(simp only[Ap,Aq]at h;obtain⟨_,_,rfl⟩:=h;exact d_.refl _)
 case d4 w n zs ps=>
  simp only[BD]at h;split at h
  ·simp only[Ap,Aq]at h;obtain⟨_,_,rfl⟩:=h;exact d_.refl _
  split at h
  ·split at h
   ·rename_i q;have:=bV ps q;repeat' split at h
    all_goals first|(cases h;done)|(simp only[Ap,Aq]at h;obtain⟨_,_,rfl⟩:=h;exact this)
   cases h
  cases h
 case extract x i=>
  simp only[BD]at h;repeat' split at h
  all_goals first|(cases h;done)|(simp only[Ap,Aq]at h;obtain⟨_,_,rfl⟩:=h;first|exact d_.refl _|exact⟨(Chg.put _ _ _).trans (Chg.clr _ _),i_.refl _,i_.refl _⟩)
theorem Zej{ws:List (Nat×Nat)}{m:Bool}{o:p_}{ty:Option RT}{d b:DS}{g:PX}{v:DV}(h:O6 ws m o ty d=some (g,v,b)):d_ d b:=by
 have i:(match BD m o ty d with|some (g,v,st)=>(match PA ws v with|some v=>some (g,v,st)|none=>none)|none=>none)=some (g,v,b)->d_ d b:=by
  intro h;cases h1:BD m o ty d with
  |none=>rw[h1]at h;cases h
  | some r=>
    obtain⟨q,n,d1⟩:=r;rw[h1]at h;simp only at h;cases j:PA ws n with
    |none=>rw[j]at h;cases h
    | some v2=>
      rw[j]at h;simp only[Ap,Aq]at h;obtain⟨_,_,rfl⟩:=h;exact Xv h1
 cases o<;>first|exact i h|skip
 case app w x y=>
  simp only[O6]at h;split at h
  ·split at h
   ·split at h
    ·rename_i h1;exact(cz h1).trans (ZfQ h)
    cases h
   cases h
  cases h
theorem CK{α:Type}(x y:α):Z' true x y=x:=by simp only[fe,Ia,H5]
theorem CD{α:Type}(x y:α):Z' false x y=y:=by simp only[fe,Ia,H5]
theorem qF(c:Bool)(x y:BX):(Zo c x y).b=bif c then x.b else y.b:=by
 cases x<;>cases y<;>rename_i x y<;>cases c<;>cases x<;>cases y<;>simp[Zo,BX.b,Ri,rM,fg,fe]
theorem OY{q q':Ql}(h:Eh q q'=true):q=q':=of_decide_eq_true h
mutual
theorem YU(c:Bool):∀(x y:DV),DK c x y= .any\/(DK c x y).enc=(bif c then x.enc else y.enc)
 | .undef,y=>by
   cases y<;>first|exact .inl rfl|skip
   case undef=>cases c<;>exact .inr rfl
 | .bool a,y=>by
   cases y<;>first|exact .inl rfl|skip
   case bool b=>right;simp only[DK,DV.enc,qF];cases c<;>rfl
 | .int k a,y=>by
   cases y<;>first|exact .inl rfl|skip
   case int k' b=>
    simp only[DK];split
    ·rename_i n;have:=Ye n;subst this;right;cases c<;>simp only[DV.enc,CK,CD,Ia,H5]
    exact .inl rfl
 | .str a,y=>by
   cases y<;>first|exact .inl rfl|skip
   case str b=>right;cases c<;>simp only[DK,DV.enc,CK,CD,Ia,H5]
 | .ifc a,y=>by
   cases y<;>first|exact .inl rfl|skip
   case ifc b=>right;cases c<;>simp only[DK,DV.enc,CK,CD,Ia,H5]
 | .nil q,y=>by
   cases y<;>first|exact .inl rfl|skip
   case nil q'=>
    simp only[DK];split
    ·rename_i g;have:=OY g;subst this;right;cases c<;>rfl
    exact .inl rfl
   case sl q' r l=>
    simp only[DK];split
    ·rename_i g;have:=OY g;subst this;right;cases c<;>simp only[DV.enc,CK,CD,Ia,H5,Nq]
    exact .inl rfl
 | .sl q r l,y=>by
   cases y<;>first|exact .inl rfl|skip
   case nil q'=>
    simp only[DK];split
    ·rename_i g;have:=OY g;subst this;right;cases c<;>simp only[DV.enc,CK,CD,Ia,H5,Nq]
    exact .inl rfl
   case sl q' r' l'=>
    simp only[DK];split
    ·rename_i g;have:=OY g;subst this;split
     ·rename_i s j;right;cases c<;>simp only[DV.enc,CK,CD,Ia,H5,(OL j).2]
     exact .inl rfl
    exact .inl rfl
 | .box i o,y=>by
   cases y<;>first|exact .inl rfl|skip
   case box i' o'=>
    simp only[DK];split
    ·rename_i h;simp only[Aj,Bb]at h;obtain⟨rfl,rfl⟩:=h;right;cases c<;>rfl
    exact .inl rfl
 | .ptr i o,y=>by
   cases y<;>first|exact .inl rfl|skip
   case ptr i' o'=>
    simp only[DK];split
    ·rename_i h;simp only[Aj,Bb]at h;obtain⟨rfl,rfl⟩:=h;right;cases c<;>rfl
    exact .inl rfl
 | .agg a,y=>by
   cases y<;>first|exact .inl rfl|skip
   case agg b=>
    simp only[DK];split
    ·rename_i h;simp only[Aj,Bb]at h;right;have:=dR c a b h.1 h.2;cases c<;>simp only[DV.enc,this,Ia,H5]
    exact .inl rfl
 | .f8 a,y=>by
   cases y<;>first|exact .inl rfl|skip
   case f8 b=>
    simp only[DK];split
    ·rename_i h;simp only[Aj,Bb]at h;right;have:=dR c a b h.1 h.2;cases c<;>simp only[DV.enc,this,Ia,H5]
    exact .inl rfl
 |.any,y=>by cases y<;>exact .inl rfl
 |.ep _ _ _ _ _,y=>by cases y<;>exact .inl rfl
theorem dR(c:Bool):∀(x y:List DV),x.length=y.length->DV.okL (Mk c x y)=true->DV.d8 (Mk c x y)=(bif c then DV.d8 x else DV.d8 y)
 |[],[],_,_=>by cases c<;>rfl
 |[],_::_,h,_=>by cases h
 |_::_,[],h,_=>by cases h
 | x :: a,y::b,h,hk=>by
   simp only[Mk,DV.okL,Aj]at hk;have h1:=dR c a b (by simpa using h) hk.2;rcases YU c x y with g|g
   ·rw[g]at hk;cases hk.1
   simp only[Mk,DV.d8,h1,g];cases c<;>rfl
end
theorem Zi6{c:Bool}{x y:DV}{p:PV}(h:EV (bif c then x else y) p):EV (DK c x y) p:=by
 rcases YU c x y with h1|h1
 ·exact .inl h1
 cases c with
 | true=>
   rcases h with h|h
   ·simp only[Ia]at h;subst h;exact .inl (by cases y<;>rfl)
   exact .inr (by rw[h1];exact h)
 | false=>
   rcases h with h|h
   ·simp only[H5]at h;subst h;exact .inl (by cases x<;>rfl)
   exact .inr (by rw[h1];exact h)
theorem dX{c:Bool}:∀ {b x y:List DC} {p:List PV},Chg b x->Chg b y->x.length=y.length->EL (bif c then x else y) p->EL (Ux c x y) p
 |_,[],[],p,_,_,_,h=>by cases c<;>exact h
 |_,[],_::_,_,_,_,h,_=>by cases h
 |_,_::_,[],_,_,_,h,_=>by cases h
 |b,x::a,y::e,[],_,_,_,h=>by cases c<;>exact h.elim
 | b,x::a,y::e,q::p,h1,h2,hl,h=>by
   have u:∃n,Chg n a/\Chg n e/\((x.d=true\/y.d=true)\/x=y):=by
    cases b with
    |nil=>exact⟨[],h1.2,h2.2,.inl (.inl h1.1)⟩
    | cons b0 b=>
      refine⟨b,h1.2,h2.2,?_⟩;rcases h1.1 with j|j
      ·exact .inl (.inl j)
      rcases h2.1 with i|i
      ·exact .inl (.inr i)
      exact .inr (j.trans i.symm)
   obtain⟨n,A,z,g⟩:=u;have t:=dX (c:=c) (p:=p) A z (by simpa using hl) (by cases c<;>exact h.2);refine⟨?_,t⟩;have s:EV (bif c then x.v else y.v) q:=(by cases c<;>exact h.1);unfold Zh;split
   ·exact Zi6 s
   rename_i hd;rcases g with g|g
   ·exfalso;apply hd;rcases g with g|g<;>simp[g]
   subst g;cases c<;>exact s
theorem dT{c:Bool}:∀ {b x y:List (List DC)} {p:List (List PV)},i_ b x->i_ b y->x.length=y.length->EB (bif c then x else y) p->EB (Uw c x y) p
 |_,[],[],p,_,_,_,h=>by cases c<;>exact h
 |_,[],_::_,_,_,_,h,_=>by cases h
 |_,_::_,[],_,_,_,h,_=>by cases h
 |b,x::a,y::e,[],_,_,_,h=>by cases c<;>exact h.elim
 | b,x::a,y::e,q::p,h1,h2,hl,h=>by
   have t:∃j n,Chg j x/\Chg j y/\i_ n a/\i_ n e:=by
    cases b with
    |nil=>exact⟨[],[],h1.1,h2.1,h1.2,h2.2⟩
    |cons j b=>exact⟨j,b,h1.1,h2.1,h1.2,h2.2⟩
   obtain⟨j,n,C,A,z,u⟩:=t;have s:=dT (c:=c) (p:=p) z u (by simpa using hl) (by cases c<;>exact h.2);refine⟨?_,s⟩;have i:EBx (bif c then x else y) q:=(by cases c<;>exact h.1);split
   ·rename_i g;have g:x.length=y.length:=(by simpa using g);rcases i with i|i
    ·cases c
     ·simp only[H5]at i;subst i;have:x=[]:=Dq g;subst this;exact .inl rfl
     simp only[Ia]at i;subst i;have:y=[]:=Dq g.symm;subst this;exact .inl rfl
    exact .inr (dX C A g i)
   exact .inl rfl
theorem ZjZ{c:Bool}{b x y z:DS}{s:PS}(j:d_ b x)(i:d_ b y)(h:Py c x y=some z)(hs:ES (bif c then x else y) s):ES z s:=by
 unfold Py at h;split at h
 ·rename_i g;simp only[Aj,Bb]at g;simp only[Ap]at h;subst h;exact⟨dX j.sl i.sl g.1.1 (by cases c<;>exact hs.sl),dT j.bx i.bx g.1.2 (by cases c<;>exact hs.bx),dT j.hp i.hp g.2 (by cases c<;>exact hs.hp)⟩
 cases h
theorem Tq{c:Bool}:∀ {b x y:List DC},Chg b x->Chg b y->Chg b (Ux c x y)
 |b,[],_,_,_=>by cases b<;>trivial
 |b,_::_,[],_,_=>by cases b<;>trivial
 |[],x::a,y::e,h,h'=>⟨by simp[Zh,h.1],Tq h.2 h'.2⟩
 | b::_,x::a,y::e,h,h'=>by
   refine⟨?_,Tq h.2 h'.2⟩;unfold Zh;split
   ·exact .inl rfl
   exact h.1
theorem Xr{c:Bool}:∀ {b x y:List (List DC)},i_ b x->i_ b y->i_ b (Uw c x y)
 |b,[],_,_,_=>by cases b<;>trivial
 |b,_::_,[],_,_=>by cases b<;>trivial
 | [],x::a,y::e,h,h'=>by
   refine⟨?_,Xr h.2 h'.2⟩;split
   ·exact Tq h.1 h'.1
   trivial
 | b::_,x::a,y::e,h,h'=>by
   refine⟨?_,Xr h.2 h'.2⟩;split
   ·exact Tq h.1 h'.1
   cases b<;>trivial
theorem Zhx{c:Bool}{b x y z:DS}(i:d_ b x)(g:d_ b y)(h:Py c x y=some z):d_ b z:=by
 unfold Py at h;split at h
 ·simp only[Ap]at h;subst h;exact⟨Tq i.sl g.sl,Xr i.bx g.bx,Xr i.hp g.hp⟩
 cases h
theorem PX.n_:∀(a b:PX),(a.land b).den↔a.den/\b.den
 |.tt,b=>by simp[PX.land,PX.den]
 |.ff,b=>by simp[PX.land,PX.den]
 |.p h,b=>by cases b<;>simp[PX.land,PX.den]
 |.and x y,b=>by cases b<;>simp[PX.land,PX.den]
 |.ite c x y,b=>by cases b<;>simp[PX.land,PX.den]
theorem PX.if_den(c:Bool)(a b:PX):(PX.if' c a b).den↔(c=true->a.den)/\(c=false->b.den):=by
 cases a<;>cases b<;>simp[PX.if',PX.den]
def AExit.isN:AExit->Bool
 |.normal=>true|_=>false
def DT.lf:DT->Option (AExit×DS)
 |.leaf e st=>some (e,st)|.node c a b=>(match c with|true=>a.lf|false=>b.lf)
 |.chk _ t=>t.lf|.bad=>none
def DT.All(P:DS->Prop):DT->Prop
 |.leaf _ st=>P st|.node _ a b=>a.All P/\b.All P|.chk _ t=>t.All P|.bad=>True
theorem DT.All.imp{P Q:DS->Prop}(h:∀st,P st->Q st):∀ {t:DT},t.All P->t.All Q
 |.leaf _ _,a=>h _ a
 |.node _ _ _,a=>⟨DT.All.imp h a.1,DT.All.imp h a.2⟩
 |.chk _ t,a=>DT.All.imp h (t:=t) a
 |.bad,_=>trivial
theorem DT.ok_lf:∀ {t:DT},t.ok.den->∃e st,t.lf=some (e,st)
 |.leaf e st,_=>⟨e,st,rfl⟩
 | .node c a b,h=>by
   have h:=(PX.if_den c a.ok b.ok).mp h;cases c
   ·exact DT.ok_lf (t:=b) (h.2 rfl)
   exact DT.ok_lf (t:=a) (h.1 rfl)
 |.chk g t,h=>DT.ok_lf (t:=t) ((PX.n_ g t.ok).mp h).2
 |.bad,h=>h.elim
theorem DT.All.lf{P:DS->Prop}:∀ {t:DT} {e:AExit} {st:DS},t.All P->t.lf=some (e,st)->P st
 |.leaf e st,_,_,h,hl=>by simp only[DT.lf,Ap,Aq]at hl;obtain⟨_,rfl⟩:=hl;exact h
 | .node c a b,_,_,h,hl=>by
   cases c
   ·exact DT.All.lf (t:=b) h.2 hl
   exact DT.All.lf (t:=a) h.1 hl
 |.chk g t,_,_,h,hl=>DT.All.lf (t:=t) h hl
 |.bad,_,_,_,hl=>by cases hl
theorem DT.norm_chg{b:DS}:∀ {t:DT} {m:DS},t.All (d_ b)->t.norm= .some m->d_ b m
 | .leaf e st,m,h,hn=>by
   cases e<;>simp only[DT.norm,reduceCtorEq,NS.some.injEq]at hn;subst hn;exact h
 | .node c x y,m,h,hn=>by
   simp only[DT.norm]at hn;cases h1:x.norm with
   |none=>rw[h1]at hn;exact DT.norm_chg h.2 hn
   | fail=>
     rw[h1]at hn;cases i:y.norm<;>rw[i]at hn<;>cases hn
   | some a=>
     rw[h1]at hn;cases i:y.norm with
     |none=>rw[i]at hn;exact DT.norm_chg h.1 (h1.trans hn)
     |fail=>rw[i]at hn;cases hn
     | some e=>
       rw[i]at hn;simp only at hn;cases j:Py c a e with
       |none=>rw[j]at hn;cases hn
       | some z=>
         rw[j]at hn;simp only[NS.some.injEq]at hn;subst hn;exact Zhx (DT.norm_chg h.1 h1) (DT.norm_chg h.2 i) j
 |.chk g t,m,h,hn=>DT.norm_chg (t:=t) h hn
 |.bad,m,h,hn=>by cases hn
theorem DT.norm_none:∀ {t:DT} {e:AExit} {st:DS},t.norm= .none->t.lf=some (e,st)->e.isN=false
 | .leaf e st,_,_,hn,hl=>by
   simp only[DT.lf,Ap,Aq]at hl;obtain⟨rfl,_⟩:=hl;cases e<;>first|rfl|cases hn
 | .node c x y,e,st,hn,hl=>by
   simp only[DT.norm]at hn;have b:x.norm= .none/\y.norm= .none:=by
    cases h1:x.norm<;>rw[h1]at hn<;>cases i:y.norm<;>rw[i]at hn<;>first|exact⟨rfl,rfl⟩|(cases hn;done)|(simp only at hn;split at hn<;>cases hn)
   cases c
   ·exact DT.norm_none b.2 hl
   exact DT.norm_none b.1 hl
 |.chk g t,_,_,hn,hl=>DT.norm_none (t:=t) hn hl
 |.bad,_,_,_,hl=>by cases hl
theorem DT.norm_s{b:DS}:∀ {t:DT} {m st:DS} {s:PS},t.All (d_ b)->t.norm= .some m->t.lf=some (.normal,st)->ES st s->ES m s
 | .leaf e st0,m,st,s,h,hn,hl,hs=>by
   simp only[DT.lf,Ap,Aq]at hl;obtain⟨rfl,rfl⟩:=hl;simp only[DT.norm,NS.some.injEq]at hn;subst hn;exact hs
 | .node c x y,m,st,s,h,hn,hl,hs=>by
   simp only[DT.norm]at hn;cases h1:x.norm with
   | none=>
     rw[h1]at hn;cases c with
     |true=>have:=DT.norm_none h1 hl;cases this
     |false=>exact DT.norm_s h.2 hn hl hs
   | fail=>
     rw[h1]at hn;cases i:y.norm<;>rw[i]at hn<;>cases hn
   | some a=>
     rw[h1]at hn;cases i:y.norm with
     | none=>
       rw[i]at hn;cases c with
       |true=>exact DT.norm_s h.1 (h1.trans hn) hl hs
       |false=>have:=DT.norm_none i hl;cases this
     |fail=>rw[i]at hn;cases hn
     | some e=>
       rw[i]at hn;simp only at hn;cases j:Py c a e with
       |none=>rw[j]at hn;cases hn
       | some z=>
         rw[j]at hn;simp only[NS.some.injEq]at hn;subst hn;refine ZjZ (DT.norm_chg h.1 h1) (DT.norm_chg h.2 i) j ?_;cases c with
         |true=>exact DT.norm_s h.1 h1 hl hs
         |false=>exact DT.norm_s h.2 i hl hs
 |.chk g t,m,st,s,h,hn,hl,hs=>DT.norm_s (t:=t) h hn hl hs
 |.bad,m,st,s,h,hn,hl,hs=>by cases hl
theorem DT.cont_s:∀ {t:DT} {b:BX} {e:AExit} {st:DS},t.cont=some b->t.lf=some (e,st)->b.b=e.isN
 | .leaf e st0,b,e',st,hc,hl=>by
   simp only[DT.lf,Ap,Aq]at hl;obtain⟨rfl,_⟩:=hl;cases e<;>simp only[DT.cont,Ap]at hc<;>subst hc<;>rfl
 | .node c x y,b,e,st,hc,hl=>by
   have j:∀ {t:DT},t.cont=none->t.lf=none:=by
    intro t;induction t with
    |leaf e st=>intro h;cases e<;>cases h
    | node c x y ih1 ih2=>
      intro h;simp only[DT.cont]at h;cases h1:x.cont<;>rw[h1]at h<;>cases i:y.cont<;>rw[i]at h<;>first|(cases h;done)|skip
      cases c
      ·exact ih2 i
      exact ih1 h1
    |chk g t n=>intro h;exact n h
    |bad=>intro _;rfl
   simp only[DT.cont]at hc;cases h1:x.cont with
   | none=>
     rw[h1]at hc;cases c with
     |true=>simp only[DT.lf,j h1]at hl;cases hl
     |false=>exact DT.cont_s hc hl
   | some p=>
     rw[h1]at hc;cases i:y.cont with
     | none=>
       rw[i]at hc;cases c with
       |true=>exact DT.cont_s (h1.trans hc) hl
       |false=>simp only[DT.lf,j i]at hl;cases hl
     | some q=>
       rw[i]at hc;simp only[Ap]at hc;subst hc;rw[qF];cases c with
       |true=>exact DT.cont_s h1 hl
       |false=>exact DT.cont_s i hl
 |.chk g t,b,e,st,hc,hl=>DT.cont_s (t:=t) hc hl
 |.bad,b,e,st,hc,hl=>by cases hl
theorem DT.cont_none:∀ {t:DT},t.cont=none->t.lf=none
 |.leaf e st,h=>by cases e<;>cases h
 | .node c x y,h=>by
   simp only[DT.cont]at h;cases h1:x.cont<;>rw[h1]at h<;>cases b:y.cont<;>rw[b]at h<;>first|(cases h;done)|skip
   cases c
   ·exact DT.cont_none (t:=y) b
   exact DT.cont_none (t:=x) h1
 |.chk g t,h=>DT.cont_none (t:=t) h
 |.bad,_=>rfl
theorem DT.drop_lf:∀ {t:DT} {e:AExit} {st:DS},t.lf=some (e,st)->e.isN=false->t.drop.lf=some (e,st)
 | .leaf e st0,e',st,hl,he=>by
   simp only[DT.lf,Ap,Aq]at hl;obtain⟨rfl,rfl⟩:=hl;cases e<;>first|rfl|cases he
 | .node c x y,e,st,hl,he=>by
   have i:∀a b:DT,(DT.nodeB c a b).lf=some (e,st)\/(match c with|true=>a.lf|false=>b.lf)≠some (e,st):=by
    intro a b;cases c with
    | true=>
      cases n:a with
      |bad=>right;simp[DT.lf]
      | _=>
        rw[<- n];by_cases h:a.lf=some (e,st)
        ·left;cases j:b<;>rw[n]at h ⊢<;>exact h
        right;exact h
    | false=>
      cases j:b with
      |bad=>right;simp[DT.lf]
      | _=>
        rw[<- j];by_cases h:b.lf=some (e,st)
        ·left;cases n:a<;>rw[j]at h ⊢<;>exact h
        right;exact h
   simp only[DT.drop];rcases i x.drop y.drop with h|h
   ·exact h
   exfalso;apply h;cases c with
   |true=>exact DT.drop_lf (t:=x) hl he
   |false=>exact DT.drop_lf (t:=y) hl he
 |.chk g t,e,st,hl,he=>DT.drop_lf (t:=t) hl he
 |.bad,e,st,hl,he=>by cases hl
theorem DT.drop_all{P:DS->Prop}:∀ {t:DT},t.All P->t.drop.All P
 |.leaf e st,h=>by cases e<;>first|trivial|exact h
 | .node c x y,h=>by
   have h1:=DT.drop_all h.1;have b:=DT.drop_all h.2;simp only[DT.drop];cases j:x.drop<;>cases i:y.drop<;>rw[j]at h1<;>rw[i]at b<;>first|trivial|exact h1|exact b|exact⟨h1,b⟩
 |.chk g t,h=>DT.drop_all (t:=t) h
 |.bad,_=>trivial
theorem DT.map_lf(f:DS->DS):∀(t:DT),(t.map f).lf=t.lf.map λx=>(x.1,f x.2)
 |.leaf _ _=>rfl
 | .node c a b=>by
   cases c
   ·exact DT.map_lf f b
   exact DT.map_lf f a
 |.chk _ t=>DT.map_lf f t
 |.bad=>rfl
theorem DT.map_ok(f:DS->DS):∀(t:DT),(t.map f).ok=t.ok
 |.leaf _ _=>rfl
 |.node c a b=>by simp only[DT.map,DT.ok,DT.map_ok f a,DT.map_ok f b]
 |.chk _ t=>by simp only[DT.map,DT.ok,DT.map_ok f t]
 |.bad=>rfl
theorem DT.map_all{P Q:DS->Prop}{f:DS->DS}(h:∀st,P st->Q (f st)):∀ {t:DT},t.All P->(t.map f).All Q
 |.leaf _ _,a=>h _ a
 |.node _ _ _,a=>⟨DT.map_all h a.1,DT.map_all h a.2⟩
 |.chk _ t,a=>DT.map_all h (t:=t) a
 |.bad,_=>trivial
theorem DT.unexit_ok(i:Nat):∀(t:DT),(t.unexit i).ok=t.ok
 | .leaf e st=>by
   cases e<;>first|rfl|skip
   simp only[DT.unexit];split<;>rfl
 |.node c a b=>by simp only[DT.unexit,DT.ok,DT.unexit_ok i a,DT.unexit_ok i b]
 |.chk _ t=>by simp only[DT.unexit,DT.ok,DT.unexit_ok i t]
 |.bad=>rfl
def AExit.un(i:Nat):AExit->AExit
 |.exit j=>if j=i then .normal else .exit j|e=>e
theorem DT.unexit_lf(i:Nat):∀(t:DT),(t.unexit i).lf=t.lf.map λx=>(x.1.un i,x.2)
 | .leaf e st=>by
   cases e<;>first|rfl|skip
   rename_i j;simp only[DT.unexit,DT.lf,Cw,AExit.un];by_cases h:j=i
   ·rw[Ad (by simpa using h),Ad h];rfl
   rw[Ae (by simpa using h),Ae h];rfl
 | .node c a b=>by
   cases c
   ·exact DT.unexit_lf i b
   exact DT.unexit_lf i a
 |.chk _ t=>DT.unexit_lf i t
 |.bad=>rfl
theorem DT.unexit_all{P:DS->Prop}(i:Nat):∀ {t:DT},t.All P->(t.unexit i).All P
 | .leaf e st,a=>by
   cases e<;>first|exact a|skip
   simp only[DT.unexit];split<;>exact a
 |.node _ _ _,a=>⟨DT.unexit_all i a.1,DT.unexit_all i a.2⟩
 |.chk _ t,a=>DT.unexit_all i (t:=t) a
 |.bad,_=>trivial
theorem DT.chk_ok(g:PX)(t:DT):(DT.chk' g t).ok.den↔g.den/\t.ok.den:=by
 cases g<;>simp only[DT.chk',DT.ok,PX.n_,PX.den,GD]
theorem DT.chk_lf(g:PX)(t:DT):(DT.chk' g t).lf=t.lf:=by cases g<;>rfl
theorem DT.chk_all{P:DS->Prop}(g:PX){t:DT}(h:t.All P):(DT.chk' g t).All P:=by cases g<;>exact h
theorem DT.bind_s{f:DS->DT}{h:DS->DS}:∀ {t:DT} {e:AExit} {st:DS},(t.bind f h).ok.den->(t.bind f h).lf=some (e,st) ->
 t.ok.den/\((∃j,t.lf=some (.normal,j)/\(f j).ok.den/\(f j).lf=some (e,st))\/(e.isN=false/\∃j,t.lf=some (e,j)/\st=h j))
 | .leaf e0 j,e,st,n,hl=>by
   cases e0 with
   |normal=>exact⟨trivial,.inl ⟨j,rfl,n,hl⟩⟩
   | ret=>
     simp only[DT.bind,DT.lf,Ap,Aq]at hl;obtain⟨rfl,rfl⟩:=hl;exact⟨trivial,.inr ⟨rfl,j,rfl,rfl⟩⟩
   | exit i=>
     simp only[DT.bind,DT.lf,Ap,Aq]at hl;obtain⟨rfl,rfl⟩:=hl;exact⟨trivial,.inr ⟨rfl,j,rfl,rfl⟩⟩
 | .node c a b,e,st,n,hl=>by
   have n:=(PX.if_den c _ _).mp n;cases c with
   | true=>
     obtain⟨h1,q⟩:=DT.bind_s (t:=a) (n.1 rfl) hl;exact⟨(PX.if_den _ _ _).mpr ⟨λ_=>h1,λh=>by cases h⟩,q⟩
   | false=>
     obtain⟨h1,q⟩:=DT.bind_s (t:=b) (n.2 rfl) hl;exact⟨(PX.if_den _ _ _).mpr ⟨λh=>(by cases h),λ_=>h1⟩,q⟩
 | .chk g t,e,st,n,hl=>by
   have n:=(PX.n_ g _).mp n;obtain⟨h1,q⟩:=DT.bind_s (t:=t) n.2 hl;exact⟨(PX.n_ _ _).mpr ⟨n.1,h1⟩,q⟩
 |.bad,e,st,n,hl=>n.elim
theorem DT.bind_all{P Q:DS->Prop}{f:DS->DT}{h:DS->DS}(g:∀st,P st->(f st).All Q)(b:∀st,P st->Q (h st)):∀ {t:DT},t.All P->(t.bind f h).All Q
 |.leaf e st,a=>by cases e<;>first|exact g _ a|exact b _ a
 |.node _ _ _,a=>⟨DT.bind_all g b a.1,DT.bind_all g b a.2⟩
 |.chk _ t,a=>DT.bind_all g b (t:=t) a
 |.bad,_=>trivial
theorem DT.then_s{b:DS}{f:DS->DT}{h:DS->DS}{t:DT}{e:AExit}{st:DS}(F:t.All (d_ b))(q:(t.then f h).ok.den)(n:(t.then f h).lf=some (e,st)):t.ok.den/\((∃g m,t.lf=some (.normal,g)/\(∀s,ES g s->ES m s)/\d_ b m/\(f m).ok.den/\(f m).lf=some (e,st))\/(e.isN=false/\∃g,t.lf=some (e,g)/\st=h g)):=by
 have i:(t.bind f h).ok.den->(t.bind f h).lf=some (e,st)->t.ok.den/\((∃g m,t.lf=some (.normal,g)/\(∀s,ES g s->ES m s)/\d_ b m/\(f m).ok.den/\(f m).lf=some (e,st))\/(e.isN=false/\∃g,t.lf=some (e,g)/\st=h g)):=λq n=>by
  obtain⟨h1,G⟩:=DT.bind_s q n;refine⟨h1,G.imp ?_ id⟩;rintro⟨g,I,L,J⟩;exact⟨g,g,I,λ_ h=>h,F.lf I,L,J⟩
 unfold DT.then at q n;split at q
 ·rename_i D;rw[Ad D]at n;exact i q n
 rename_i D;rw[Ae D]at n;cases hm:t.norm with
 |none=>rw[hm]at q n;exact i q n
 |fail=>rw[hm]at q n;exact i q n
 | some m=>
   rw[hm]at q n;simp only[DT.chk_ok,DT.chk_lf]at q n;obtain⟨z,j⟩:=q;refine⟨z,?_⟩;obtain⟨C,g,h0⟩:=DT.ok_lf z;have y:C.isN=true->(f m).ok.den->(f m).lf=some (e,st)->((∃g m,t.lf=some (.normal,g)/\(∀s,ES g s->ES m s)/\d_ b m/\(f m).ok.den/\(f m).lf=some (e,st))\/(e.isN=false/\∃g,t.lf=some (e,g)/\st=h g)):=λu h1 G=>by
    have u:C= .normal:=(by cases C<;>first|rfl|cases u);subst u;exact .inl ⟨g,m,h0,λs hs=>DT.norm_s F hm h0 hs,DT.norm_chg F hm,h1,G⟩
   cases A:t.cont with
   |none=>rw[A]at j;exact j.elim
   | some c=>
     have x:=DT.cont_s A h0;cases c with
     | lit c=>
       cases c with
       |false=>rw[A]at j;exact j.elim
       | true=>
         rw[A]at j n;exact y x.symm j n
     | dyn c=>
       rw[A]at j n;simp only[BX.b]at x;subst x;have j:=(PX.if_den _ _ _).mp j;cases u:C.isN with
       | true=>
         rw[u]at n;exact y u (j.1 u) n
       | false=>
         rw[u]at n;simp only[DT.lf,DT.map_lf,DT.drop_lf h0 u,Cw,Ap,Aq]at n;obtain⟨rfl,rfl⟩:=n;exact .inr ⟨u,g,h0,rfl⟩
theorem DT.then_all{b:DS}{Q:DS->Prop}{f:DS->DT}{h:DS->DS}{t:DT}(g:t.All (d_ b))(j:∀st,d_ b st->(f st).All Q)(i:∀st,d_ b st->Q (h st)):(t.then f h).All Q:=by
 unfold DT.then;split
 ·exact DT.bind_all j i g
 cases hm:t.norm with
 |none=>exact DT.bind_all j i g
 |fail=>exact DT.bind_all j i g
 | some m=>
   have h1:=j m (DT.norm_chg g hm);refine DT.chk_all _ ?_;cases n:t.cont with
   |none=>trivial
   | some c=>
     cases c with
     |lit c=>cases c<;>first|trivial|exact h1
     |dyn c=>exact⟨h1,DT.map_all i (DT.drop_all g)⟩
end
end Go.Ag
