/- Part 6 of what FnExactParseKeymap needs. No conditions. -/
import Derived.Below
import Derived.Lib.Join
import Derived.Lib.Split
import Derived.Lib.Bytealg
import Derived.Lib.ItoaNum
import Derived.Lib.Atoi
import Derived.Sort.Grow
import Derived.Test.YtijikmakanpmlaaGreatDoorLibE
namespace Go.Ag
set_option linter.unusedSimpArgs false
set_option linter.unusedVariables false
noncomputable section
section
set_option maxRecDepth 8000
def YB:ACode:=(.seq (.region [⟨0,some 4,.mv (.c (.int .i64 0)),none,[]⟩]) (.seq (.seq (.region [⟨0,some 5,.mv (.c (.int .i64 0)),none,[]⟩]) (.block 0 (.loop [0,1,5] (.seq (.seq (.region [⟨0,some 6,.mv (.t 5),none,[]⟩,⟨1,some 7,.mv (.t 0),none,[]⟩,⟨2,some 8,.len (.t 7),none,[]⟩,⟨3,some 9,.bin .lss (.t 6) (.t 8),none,[]⟩]) (.cond (.t 9) .skip (.exit 0))) (.seq (.block 1 (.seq (.region [⟨0,some 12,.mv (.t 0),none,[]⟩,⟨1,some 13,.mv (.t 5),none,[]⟩,⟨2,some 14,.mv (.t 1),none,[]⟩,⟨3,some 15,.indexA 4 (.t 12) (.t 13),none,[]⟩,⟨4,some 16,.fieldA 0 (.t 15),none,[]⟩,⟨5,none,.storeH 1 (.t 16) (.t 14),none,[]⟩]) (.seq (.region [⟨0,some 17,.mv (.t 1),none,[]⟩,⟨1,some 18,.bin .add (.t 17) (.c (.int .i64 1)),none,[]⟩,⟨2,some 1,.mv (.t 18),none,[]⟩]) (.seq (.region [⟨0,some 19,.mv (.t 0),none,[]⟩,⟨1,some 20,.mv (.t 5),none,[]⟩,⟨2,some 21,.mv (.t 1),none,[]⟩,⟨3,some 22,.indexA 4 (.t 19) (.t 20),none,[]⟩,⟨4,some 23,.fieldA 1 (.t 22),none,[]⟩,⟨5,none,.storeH 1 (.t 23) (.t 21),none,[]⟩]) (.seq (.region [⟨0,some 24,.mv (.t 1),none,[]⟩,⟨1,some 25,.bin .add (.t 24) (.c (.int .i64 1)),none,[]⟩,⟨2,some 1,.mv (.t 25),none,[]⟩]) (.seq (.region [⟨0,some 26,.mv (.t 0),none,[]⟩,⟨1,some 27,.mv (.t 5),none,[]⟩,⟨2,some 28,.mv (.t 1),none,[]⟩,⟨3,some 29,.indexA 4 (.t 26) (.t 27),none,[]⟩,⟨4,some 30,.fieldA 2 (.t 29),none,[]⟩,⟨5,none,.storeH 1 (.t 30) (.t 28),none,[]⟩]) (.seq (.region [⟨0,some 31,.mv (.t 1),none,[]⟩,⟨1,some 32,.bin .add (.t 31) (.c (.int .i64 1)),none,[]⟩,⟨2,some 1,.mv (.t 32),none,[]⟩]) (.seq (.region [⟨0,some 33,.mv (.t 0),none,[]⟩,⟨1,some 34,.mv (.t 5),none,[]⟩,⟨2,some 35,.mv (.t 1),none,[]⟩,⟨3,some 36,.indexA 4 (.t 33) (.t 34),none,[]⟩,⟨4,some 37,.fieldA 3 (.t 36),none,[]⟩,⟨5,none,.storeH 1 (.t 37) (.t 35),none,[]⟩]) (.region [⟨0,some 38,.mv (.t 1),none,[]⟩,⟨1,some 39,.bin .add (.t 38) (.c (.int .i64 1)),none,[]⟩,⟨2,some 1,.mv (.t 39),none,[]⟩]))))))))) (.region [⟨0,some 10,.mv (.t 5),none,[]⟩,⟨1,some 11,.bin .add (.t 10) (.c (.int .i64 1)),none,[]⟩,⟨2,some 5,.mv (.t 11),none,[]⟩])))))) (.seq (.region [⟨0,some 40,.mv (.t 1),none,[]⟩,⟨1,some 4,.mv (.t 40),none,[]⟩]) .ret)))
def T1:AFun:=⟨2,41,0,false,[.tmp 4],YB⟩
@[irreducible] def LW:A3:=JS T1
@[irreducible] def Fs(x:List (Int×Int×Int×Int))(m:Int):(List (Int×Int×Int×Int))×Int:=(shut fun(x:List (Int×Int×Int×Int)) (m:Int)=>Bu (RT.mkI AR) x m).1 x m
@[irreducible] def Qu(x:List (Int×Int×Int×Int)):Prop:=(shut fun(x:List (Int×Int×Int×Int))=>CT.wl (.sl AR) x).1 x
theorem Yg:Fs=fun x m=>Bu (RT.mkI AR) x m:=by unfold Fs;exact(shut _).2
theorem je:Qu=fun x=>CT.wl (.sl AR) x:=by unfold Qu;exact(shut _).2
theorem jQ:SlC LW AR:=by
 rintro h ω hd p l u m Q hok hinj hM hQ;have hn:=hM.len;have hlb:l.length≤9223372036854775807:=hok.1;unfold LW;refine Vi rfl ?_;unfold YB;simp only[go_sem,reduceIte,reduceCtorEq,Nat.reduceAdd,Nat.reduceBEq,Int.reduceLT,Int.reduceLE,Int.reduceGT,Int.reduceGE,Int.reduceBEq,Int.reduceBNe,Nat.reduceEqDiff,Nat.reduceLeDiff,Nat.reduceLT,hn];refine dV l.length (fun i st=>∃ h',st=⟨[u,.int .i64 (BH (RT.mkI AR) l m i).2,.undef,.undef,.undef,.int .i64 (i:Int)]++FV 35,[],h'⟩∧Only (Je ω hd p) h h'∧MS h' ω hd p AR (BH (RT.mkI AR) l m i).1 u) ?_ ?_
 · refine⟨h,?_,Only.refl _ _,hM⟩;simp only[U2,keep,Xy];rfl
 · rintro i st next hi ⟨h1,rfl,hO,hR⟩ hnx
   by_cases hlt:i<l.length
   · have hc:decide ((i:Int)<(l.length:Int))=true:=Cq (by omega)
     have hw:IntKind.i64.wrap ((i:Int)+1)=((i+1:Nat):Int):=by rw[XN (by omega)];omega
     obtain⟨b,hub⟩:=hR.slice (by rw[Mv];omega);rw[Mv] at hub;subst hub
     cases hL:BH (RT.mkI AR) l m i with
     |mk L k0=>
     rw[hL] at hR;obtain⟨hLl,hs,hx0⟩:=aX hlt hL
     have hiL:i<L.length:=by omega
     have hwx:=fV hok hlt;rw[← hx0] at hwx;have R0:=MS.frame hR hiL;clear hx0;generalize hx0:List.getD L i (RT.dflt AR)=x0 at R0 hs hwx;clear hx0;have hx:=dX (b:=b) (w:=4) hlt (k:=.i64);simp only;obtain⟨h2,s0,o0,R1⟩:=MS.st R0 hiL (off:=0) (by decide) (v:=(.int .i64 k0)) rfl rfl (y:=((k0,x0.2.1,x0.2.2.1,x0.2.2.2):RT.D AR)) rfl hinj [];replace s0:IV [] h1 1 (.ptr b (i*4)) (.int .i64 k0)=some (.undef,[],h2):=s0;obtain⟨h3,s1,o1,R2⟩:=MS.st R1 hiL (off:=1) (by decide) (v:=(.int .i64 (IntKind.i64.wrap (k0+1)))) rfl rfl (y:=((k0,(IntKind.i64.wrap (k0+1)),x0.2.2.1,x0.2.2.2):RT.D AR)) rfl hinj [];replace s1:IV [] h2 1 (.ptr b (i*4+1)) (.int .i64 (IntKind.i64.wrap (k0+1)))=some (.undef,[],h3):=s1;obtain⟨h4,s2,o2,R3⟩:=MS.st R2 hiL (off:=2) (by decide) (v:=(.int .i64 (IntKind.i64.wrap (IntKind.i64.wrap (k0+1)+1)))) rfl rfl (y:=((k0,(IntKind.i64.wrap (k0+1)),(IntKind.i64.wrap (IntKind.i64.wrap (k0+1)+1)),x0.2.2.2):RT.D AR)) rfl hinj [];replace s2:IV [] h3 1 (.ptr b (i*4+2)) (.int .i64 (IntKind.i64.wrap (IntKind.i64.wrap (k0+1)+1)))=some (.undef,[],h4):=s2;obtain⟨h5,s3,o3,R4⟩:=MS.st R3 hiL (off:=3) (by decide) (v:=(.int .i64 (IntKind.i64.wrap (IntKind.i64.wrap (IntKind.i64.wrap (k0+1)+1)+1)))) rfl rfl (y:=((k0,(IntKind.i64.wrap (k0+1)),(IntKind.i64.wrap (IntKind.i64.wrap (k0+1)+1)),(IntKind.i64.wrap (IntKind.i64.wrap (IntKind.i64.wrap (k0+1)+1)+1))):RT.D AR)) rfl hinj [];replace s3:IV [] h4 1 (.ptr b (i*4+3)) (.int .i64 (IntKind.i64.wrap (IntKind.i64.wrap (IntKind.i64.wrap (k0+1)+1)+1)))=some (.undef,[],h5):=s3;simp only[go_sem,reduceIte,reduceCtorEq,Nat.reduceAdd,Nat.reduceBEq,Int.reduceLT,Int.reduceLE,Int.reduceGT,Int.reduceGE,Int.reduceBEq,Int.reduceBNe,Nat.reduceEqDiff,Nat.reduceLeDiff,Nat.reduceLT,hn,hc,hw,hx,s0,s1,s2,s3];exact hnx _ hlt ⟨h5,by rw[hs];rfl,(Only.trans (Only.trans (Only.trans (Only.trans hO o0) o1) o2) o3),by rw[hs];exact R4⟩
   · have hc:decide ((i:Int)<(l.length:Int))=false:=C5 (by omega)
     have hi':i=l.length:=by omega
     subst hi';simp only[go_sem,reduceIte,reduceCtorEq,Nat.reduceAdd,Nat.reduceBEq,Int.reduceLT,Int.reduceLE,Int.reduceGT,Int.reduceGE,Int.reduceBEq,Int.reduceBNe,Nat.reduceEqDiff,Nat.reduceLeDiff,Nat.reduceLT,hn,hc];have e:=Mr (RT.mkI AR) l m;rw[e] at hR ⊢;exact hQ h1 hO hR
def Yv:ACode:=(.seq (.region [⟨0,some 4,.mv (.c (.int .i64 0)),none,[]⟩]) (.seq (.seq (.region [⟨0,some 5,.mv (.c (.int .i64 0)),none,[]⟩]) (.block 0 (.loop [0,1,5] (.seq (.seq (.region [⟨0,some 6,.mv (.t 5),none,[]⟩,⟨1,some 7,.mv (.t 0),none,[]⟩,⟨2,some 8,.len (.t 7),none,[]⟩,⟨3,some 9,.bin .lss (.t 6) (.t 8),none,[]⟩]) (.cond (.t 9) .skip (.exit 0))) (.seq (.block 1 (.region [⟨0,some 12,.mv (.t 0),none,[]⟩,⟨1,some 13,.mv (.t 5),none,[]⟩,⟨2,some 14,.indexA 1 (.t 12) (.t 13),none,[]⟩,⟨3,some 15,.loadH none (.t 14),none,[]⟩,⟨4,some 16,.mv (.t 1),none,[]⟩,⟨5,some 17,.call LW [(.t 15),(.t 16)],none,[]⟩,⟨6,some 1,.mv (.t 17),none,[]⟩])) (.region [⟨0,some 10,.mv (.t 5),none,[]⟩,⟨1,some 11,.bin .add (.t 10) (.c (.int .i64 1)),none,[]⟩,⟨2,some 5,.mv (.t 11),none,[]⟩])))))) (.seq (.region [⟨0,some 18,.mv (.t 1),none,[]⟩,⟨1,some 4,.mv (.t 18),none,[]⟩]) .ret)))
def TY:AFun:=⟨2,19,0,false,[.tmp 4],Yv⟩
@[irreducible] def LV:A3:=JS TY
@[irreducible] def Gu(x:List (List (Int×Int×Int×Int)))(m:Int):(List (List (Int×Int×Int×Int)))×Int:=(shut fun(x:List (List (Int×Int×Int×Int))) (m:Int)=>Bu (RT.mkI (.one (.sl AR))) x m).1 x m
@[irreducible] def Qp(x:List (List (Int×Int×Int×Int))):Prop:=(shut fun(x:List (List (Int×Int×Int×Int)))=>CT.wl (.sl (.one (.sl AR))) x).1 x
theorem Ye:Gu=fun x m=>Bu (RT.mkI (.one (.sl AR))) x m:=by unfold Gu;exact(shut _).2
theorem jc:Qp=fun x=>CT.wl (.sl (.one (.sl AR))) x:=by unfold Qp;exact(shut _).2
theorem jk:SlC LV (.one (.sl AR)):=by
 rintro h ω hd p l u m Q hok hinj hM hQ;have hn:=hM.len;have hlb:l.length≤9223372036854775807:=hok.1;unfold LV;refine Vi rfl ?_;unfold Yv;simp only[go_sem,reduceIte,reduceCtorEq,Nat.reduceAdd,Nat.reduceBEq,Int.reduceLT,Int.reduceLE,Int.reduceGT,Int.reduceGE,Int.reduceBEq,Int.reduceBNe,Nat.reduceEqDiff,Nat.reduceLeDiff,Nat.reduceLT,hn];refine dV l.length (fun i st=>∃ h',st=⟨[u,.int .i64 (BH (RT.mkI (.one (.sl AR))) l m i).2,.undef,.undef,.undef,.int .i64 (i:Int)]++FV 13,[],h'⟩∧Only (Je ω hd p) h h'∧MS h' ω hd p (.one (.sl AR)) (BH (RT.mkI (.one (.sl AR))) l m i).1 u) ?_ ?_
 · refine⟨h,?_,Only.refl _ _,hM⟩;simp only[U2,keep,Xy];rfl
 · rintro i st next hi ⟨h1,rfl,hO,hR⟩ hnx
   by_cases hlt:i<l.length
   · have hc:decide ((i:Int)<(l.length:Int))=true:=Cq (by omega)
     have hw:IntKind.i64.wrap ((i:Int)+1)=((i+1:Nat):Int):=by rw[XN (by omega)];omega
     obtain⟨b,hub⟩:=hR.slice (by rw[Mv];omega);rw[Mv] at hub;subst hub
     cases hL:BH (RT.mkI (.one (.sl AR))) l m i with
     |mk L k0=>
     rw[hL] at hR;obtain⟨hLl,hs,hx0⟩:=aX hlt hL
     have hiL:i<L.length:=by omega
     have hwx:=fV hok hlt;rw[← hx0] at hwx;have R0:=MS.frame hR hiL;clear hx0;generalize hx0:List.getD L i (RT.dflt (.one (.sl AR)))=x0 at R0 hs hwx;clear hx0;have hx:=dX (b:=b) (w:=1) hlt (k:=.i64);simp only;obtain⟨u0,s0,M0,f0⟩:=MS.sb R0 hiL (off:=0) (by decide) (r':=AR) (l':=x0) rfl;replace s0:Pa h1 none (.ptr b (i*1))=some u0:=s0;have ok0:=(MS.ok1 M0).1;simp only[go_sem,reduceIte,reduceCtorEq,Nat.reduceAdd,Nat.reduceBEq,Int.reduceLT,Int.reduceLE,Int.reduceGT,Int.reduceGE,Int.reduceBEq,Int.reduceBNe,Nat.reduceEqDiff,Nat.reduceLeDiff,Nat.reduceLT,hn,hc,hw,hx,s0,ok0];refine gY (jQ h1 ω hd _ x0 u0 k0 _ hwx hinj M0 fun h2 O0 N0=>?_);obtain⟨o0,R1⟩:=f0 h2 _ ((Bu (RT.mkI AR) x0 k0).1:RT.D (.one (.sl AR))) O0 N0 rfl;simp only[go_sem,reduceIte,reduceCtorEq,Nat.reduceAdd,Nat.reduceBEq,Int.reduceLT,Int.reduceLE,Int.reduceGT,Int.reduceGE,Int.reduceBEq,Int.reduceBNe,Nat.reduceEqDiff,Nat.reduceLeDiff,Nat.reduceLT,hn,hc,hw,hx,s0,ok0];exact hnx _ hlt ⟨h2,by rw[hs];rfl,(Only.trans hO o0),by rw[hs];exact R1⟩
   · have hc:decide ((i:Int)<(l.length:Int))=false:=C5 (by omega)
     have hi':i=l.length:=by omega
     subst hi';simp only[go_sem,reduceIte,reduceCtorEq,Nat.reduceAdd,Nat.reduceBEq,Int.reduceLT,Int.reduceLE,Int.reduceGT,Int.reduceGE,Int.reduceBEq,Int.reduceBNe,Nat.reduceEqDiff,Nat.reduceLeDiff,Nat.reduceLT,hn,hc];have e:=Mr (RT.mkI (.one (.sl AR))) l m;rw[e] at hR ⊢;exact hQ h1 hO hR
def YI:ACode:=(.seq (.region [⟨0,some 2,.boxB 0 2 (.t 0),none,[]⟩,⟨1,some 4,.mv (.c (.int .i64 0)),none,[]⟩]) (.seq (.region [⟨0,some 5,.fieldA 1 (.t 2),none,[]⟩,⟨1,some 6,.loadB 0 none (.t 5),none,[]⟩,⟨2,some 7,.mv (.t 1),none,[]⟩,⟨3,some 8,.call LV [(.t 6),(.t 7)],none,[]⟩,⟨4,some 1,.mv (.t 8),none,[]⟩]) (.seq (.region [⟨0,some 9,.mv (.t 1),none,[]⟩,⟨1,some 4,.mv (.t 9),none,[]⟩]) .ret)))
def T4:AFun:=⟨2,10,1,false,[.tmp 4],YI⟩
@[irreducible] def Jr:A3:=JS T4
@[irreducible] def CB(x:Int×(List (List (Int×Int×Int×Int))))(m:Int):(Int×(List (List (Int×Int×Int×Int))))×Int:=(shut fun(x:Int×(List (List (Int×Int×Int×Int)))) (m:Int)=>RT.mkT (.cons (.int .i64) (.one (.sl (.one (.sl AR))))) x m).1 x m
@[irreducible] def LU(x:Int×(List (List (Int×Int×Int×Int)))):Prop:=(shut fun(x:Int×(List (List (Int×Int×Int×Int))))=>RT.wl (.cons (.int .i64) (.one (.sl (.one (.sl AR))))) x).1 x
theorem Yt:CB=fun x m=>RT.mkT (.cons (.int .i64) (.one (.sl (.one (.sl AR))))) x m:=by unfold CB;exact(shut _).2
theorem Yw:LU=fun x=>RT.wl (.cons (.int .i64) (.one (.sl (.one (.sl AR))))) x:=by unfold LU;exact(shut _).2
theorem kd:Pw Jr (iz (.cons (.int .i64) (.one (.sl (.one (.sl AR)))))).P:=by
 rintro h ω hd P b Aw us u m K Q hinj hu hl hr ⟨x,rfl,hok,hK⟩ hQ;have hu:u= .agg us:=hu;subst hu;show Jr [.agg us,.int .i64 m] h Q;obtain⟨u0,u1,rfl⟩:=xd hl;have c0:RC h ω (.inn hd (P++[b+0])) (CT.enc (.int .i64) x.1) u0:=hr 0 (WX (by decide));have c1:RC h ω (.inn hd (P++[b+1])) (CT.enc (.sl (.one (.sl AR))) x.2) u1:=hr 1 (WX (by decide));have e0:=c0.cellV rfl;have e1:=c1.cellV rfl;have g1:=(RC.own1 c1).1;have z1:=(RC.own1 c1).2.2;unfold Jr;refine Vi rfl ?_;unfold YI;simp only[go_sem,reduceIte,reduceCtorEq,Nat.reduceAdd,Nat.reduceBEq,Int.reduceLT,Int.reduceLE,Int.reduceGT,Int.reduceGE,Int.reduceBEq,Int.reduceBNe,Nat.reduceEqDiff,Nat.reduceLeDiff,Nat.reduceLT,e0,e1,g1];refine gY (jk h ω hd (P++[b+1]) x.2 u1 m _ hok.2 hinj c1 fun h1 O0 N0=>?_);replace N0:RC h1 ω (.inn hd (P++[b+1])) (CT.enc (.sl (.one (.sl AR))) (Bu (RT.mkI (.one (.sl AR))) x.2 m).1) u1:=N0;have b0_0:=RC.beside c0 O0 (fun l hs=>by obtain⟨q,e⟩:=hs;exact⟨b+1,q,by omega,by rw[e];simp⟩);simp only[go_sem,reduceIte,reduceCtorEq,Nat.reduceAdd,Nat.reduceBEq,Int.reduceLT,Int.reduceLE,Int.reduceGT,Int.reduceGE,Int.reduceBEq,Int.reduceBNe,Nat.reduceEqDiff,Nat.reduceLeDiff,Nat.reduceLT,e0,e1,g1]
 refine hQ _ _ h1 hK rfl ((Only.mono O0 fun l hs=>by obtain⟨q,e⟩:=hs;exact⟨1,_,q,WX (by decide),rfl,by rw[e];simp⟩)) fun c hc=>?_
 have hc:c<2:=hc;rcases (show c=0∨c=1 by omega) with rfl|rfl
 · exact b0_0
 · exact N0
def Ua:DMk:=⟨(.cons (.int .i64) (.one (.sl (.one (.sl AR))))),true,LU,CB,false⟩
theorem j7:Pw Jr (DMk.P Ua):=by unfold Ua;rw[Yw,Yt];exact kd
def jX:DCode:=(.seq [1,0] (.region [oi 0 4 0]) (.seq [1] (.seq [5,1,0] (.region [oi 0 5 0]) (.block 0 (.loop [0,1,5] 1 (.seq [5,1,0] (.seq [9,5,1,0] (.region [om 0 6 5,on 1 7 0,oa 2 8 (.len (.t 7)),oa 3 9 (.bin .lss (.t 6) (.t 8))]) (.cond (.t 9) .skip (.exit 0))) (.seq [5,1,0] (.block 1 (.seq [5,1,0] (.seq [18,5,1,0] (.region [on 0 12 0,om 1 13 5,oa 2 14 (.indexA 4 (.t 12) (.t 13)),oa 3 15 (.fieldA 0 (.t 14)),oa 4 16 (.loadH none (.t 15)),om 5 17 1,oa 6 18 (.bin .neq (.t 16) (.t 17))]) (.cond (.t 18) (.seq [4] (.region [oi 0 4 (-1)]) .ret) .skip)) (.seq [5,1,0] (.region [om 0 19 1,oa 1 20 (.bin .add (.t 19) (.c (.int .i64 1))),om 2 1 20]) (.seq [5,1,0] (.seq [27,5,1,0] (.region [on 0 21 0,om 1 22 5,oa 2 23 (.indexA 4 (.t 21) (.t 22)),oa 3 24 (.fieldA 1 (.t 23)),oa 4 25 (.loadH none (.t 24)),om 5 26 1,oa 6 27 (.bin .neq (.t 25) (.t 26))]) (.cond (.t 27) (.seq [4] (.region [oi 0 4 (-1)]) .ret) .skip)) (.seq [5,1,0] (.region [om 0 28 1,oa 1 29 (.bin .add (.t 28) (.c (.int .i64 1))),om 2 1 29]) (.seq [5,1,0] (.seq [36,5,1,0] (.region [on 0 30 0,om 1 31 5,oa 2 32 (.indexA 4 (.t 30) (.t 31)),oa 3 33 (.fieldA 2 (.t 32)),oa 4 34 (.loadH none (.t 33)),om 5 35 1,oa 6 36 (.bin .neq (.t 34) (.t 35))]) (.cond (.t 36) (.seq [4] (.region [oi 0 4 (-1)]) .ret) .skip)) (.seq [5,1,0] (.region [om 0 37 1,oa 1 38 (.bin .add (.t 37) (.c (.int .i64 1))),om 2 1 38]) (.seq [5,1,0] (.seq [45,5,1,0] (.region [on 0 39 0,om 1 40 5,oa 2 41 (.indexA 4 (.t 39) (.t 40)),oa 3 42 (.fieldA 3 (.t 41)),oa 4 43 (.loadH none (.t 42)),om 5 44 1,oa 6 45 (.bin .neq (.t 43) (.t 44))]) (.cond (.t 45) (.seq [4] (.region [oi 0 4 (-1)]) .ret) .skip)) (.region [om 0 46 1,oa 1 47 (.bin .add (.t 46) (.c (.int .i64 1))),om 2 1 47]))))))))) (.region [om 0 10 5,oa 1 11 (.bin .add (.t 10) (.c (.int .i64 1))),om 2 5 11])))))) (.seq [4] (.region [om 0 48 1,om 1 4 48]) .ret)))
def Im:Fn:=⟨⟨2,49,0,true,[.tmp 4],jX⟩,[.one .frz (.sl AR),.one .frz (.int .i64)],.one (.one .own (.int .i64))⟩
theorem j8:Im.A:=Be trivial
def Ft:(List (Int×Int×Int×Int))×Int→Int:=Im.V
def NL:(List (Int×Int×Int×Int))×Int→Prop:=Im.O
theorem jK:Im.B:=Bj trivial (by kernel_rfl) (fun x=>by kernel_rfl)
def jn:DCode:=(.seq [1,0] (.region [oi 0 4 0]) (.seq [1] (.seq [5,1,0] (.region [oi 0 5 0]) (.block 0 (.loop [0,1,5] 1 (.seq [5,1,0] (.seq [9,5,1,0] (.region [om 0 6 5,on 1 7 0,oa 2 8 (.len (.t 7)),oa 3 9 (.bin .lss (.t 6) (.t 8))]) (.cond (.t 9) .skip (.exit 0))) (.seq [5,1,0] (.block 1 (.seq [5,1,0] (.region [on 0 12 0,om 1 13 5,oa 2 14 (.indexA 1 (.t 12) (.t 13)),oa 3 15 (.loadH none (.t 14)),om 4 16 1,oF 5 17 Im [(.t 15),(.t 16)],om 6 1 17]) (.seq [19,5,1,0] (.region [om 0 18 1,oa 1 19 (.bin .lss (.t 18) (.c (.int .i64 0)))]) (.cond (.t 19) (.seq [4] (.region [oi 0 4 (-1)]) .ret) .skip)))) (.region [om 0 10 5,oa 1 11 (.bin .add (.t 10) (.c (.int .i64 1))),om 2 5 11])))))) (.seq [4] (.region [om 0 20 1,om 1 4 20]) .ret)))
def Ih:Fn:=⟨⟨2,21,0,true,[.tmp 4],jn⟩,[.one .frz (.sl (.one (.sl AR))),.one .frz (.int .i64)],.one (.one .own (.int .i64))⟩
theorem jy:Ih.A:=Be ⟨j8,trivial⟩
def NM:(List (List (Int×Int×Int×Int)))×Int→Int:=Ih.V
def Qs:(List (List (Int×Int×Int×Int)))×Int→Prop:=Ih.O
theorem jh:Ih.B:=Bj ⟨jK,trivial⟩ (by kernel_rfl) (fun x=>by kernel_rfl)
def kA:DCode:=(.seq [2,1] (.region [oa 0 2 (.boxB 0 2 (.t 0)),oi 1 4 0]) (.seq [1] (.region [oa 0 5 (.fieldA 1 (.t 2)),oa 1 6 (.loadB 0 none (.t 5)),om 2 7 1,oF 3 8 Ih [(.t 6),(.t 7)],om 4 1 8]) (.seq [1] (.seq [10,1] (.region [om 0 9 1,oa 1 10 (.bin .lss (.t 9) (.c (.int .i64 0)))]) (.cond (.t 10) (.seq [4] (.region [oi 0 4 (-1)]) .ret) .skip)) (.seq [4] (.region [om 0 11 1,om 1 4 11]) .ret))))
def GA:Fn:=⟨⟨2,12,1,true,[.tmp 4],kA⟩,[.agg [(.frz,.int .i64),(.frz,.sl (.one (.sl AR)))],.one .frz (.int .i64)],.one (.one .own (.int .i64))⟩
theorem Yz:GA.A:=Be ⟨jy,trivial⟩
def GC:(Int×(List (List (Int×Int×Int×Int))))×Int→Int:=GA.V
def NN:(Int×(List (List (Int×Int×Int×Int))))×Int→Prop:=GA.O
theorem Yy:GA.B:=Bj ⟨jh,trivial⟩ (by kernel_rfl) (fun x=>by kernel_rfl)
end
section
set_option maxRecDepth 100000
theorem jS (x):Ft x=(bSel (iLt (Am (fun(x0:(Int×Int))=>(bAnd (iLt x0.2 (lLen x.1)) (bAnd (bNot (iNe (lGet x.1 (iNat x0.2) (0,0,0,0)).1 x0.1)) (bAnd (bNot (iNe (lGet x.1 (iNat x0.2) (0,0,0,0)).2.1 (iAdd .i64 x0.1 1))) (bAnd (bNot (iNe (lGet x.1 (iNat x0.2) (0,0,0,0)).2.2.1 (iAdd .i64 (iAdd .i64 x0.1 1) 1))) (bNot (iNe (lGet x.1 (iNat x0.2) (0,0,0,0)).2.2.2 (iAdd .i64 (iAdd .i64 (iAdd .i64 x0.1 1) 1) 1)))))))) (fun(x0:(Int×Int))=>((iAdd .i64 (iAdd .i64 (iAdd .i64 (iAdd .i64 x0.1 1) 1) 1) 1),(iAdd .i64 x0.2 1))) (x.2,0)).2 (lLen x.1)) (bSel (iNe (lGet x.1 (iNat (Am (fun(x0:(Int×Int))=>(bAnd (iLt x0.2 (lLen x.1)) (bAnd (bNot (iNe (lGet x.1 (iNat x0.2) (0,0,0,0)).1 x0.1)) (bAnd (bNot (iNe (lGet x.1 (iNat x0.2) (0,0,0,0)).2.1 (iAdd .i64 x0.1 1))) (bAnd (bNot (iNe (lGet x.1 (iNat x0.2) (0,0,0,0)).2.2.1 (iAdd .i64 (iAdd .i64 x0.1 1) 1))) (bNot (iNe (lGet x.1 (iNat x0.2) (0,0,0,0)).2.2.2 (iAdd .i64 (iAdd .i64 (iAdd .i64 x0.1 1) 1) 1)))))))) (fun(x0:(Int×Int))=>((iAdd .i64 (iAdd .i64 (iAdd .i64 (iAdd .i64 x0.1 1) 1) 1) 1),(iAdd .i64 x0.2 1))) (x.2,0)).2) (0,0,0,0)).1 (Am (fun(x0:(Int×Int))=>(bAnd (iLt x0.2 (lLen x.1)) (bAnd (bNot (iNe (lGet x.1 (iNat x0.2) (0,0,0,0)).1 x0.1)) (bAnd (bNot (iNe (lGet x.1 (iNat x0.2) (0,0,0,0)).2.1 (iAdd .i64 x0.1 1))) (bAnd (bNot (iNe (lGet x.1 (iNat x0.2) (0,0,0,0)).2.2.1 (iAdd .i64 (iAdd .i64 x0.1 1) 1))) (bNot (iNe (lGet x.1 (iNat x0.2) (0,0,0,0)).2.2.2 (iAdd .i64 (iAdd .i64 (iAdd .i64 x0.1 1) 1) 1)))))))) (fun(x0:(Int×Int))=>((iAdd .i64 (iAdd .i64 (iAdd .i64 (iAdd .i64 x0.1 1) 1) 1) 1),(iAdd .i64 x0.2 1))) (x.2,0)).1) (-1) (bSel (iNe (lGet x.1 (iNat (Am (fun(x0:(Int×Int))=>(bAnd (iLt x0.2 (lLen x.1)) (bAnd (bNot (iNe (lGet x.1 (iNat x0.2) (0,0,0,0)).1 x0.1)) (bAnd (bNot (iNe (lGet x.1 (iNat x0.2) (0,0,0,0)).2.1 (iAdd .i64 x0.1 1))) (bAnd (bNot (iNe (lGet x.1 (iNat x0.2) (0,0,0,0)).2.2.1 (iAdd .i64 (iAdd .i64 x0.1 1) 1))) (bNot (iNe (lGet x.1 (iNat x0.2) (0,0,0,0)).2.2.2 (iAdd .i64 (iAdd .i64 (iAdd .i64 x0.1 1) 1) 1)))))))) (fun(x0:(Int×Int))=>((iAdd .i64 (iAdd .i64 (iAdd .i64 (iAdd .i64 x0.1 1) 1) 1) 1),(iAdd .i64 x0.2 1))) (x.2,0)).2) (0,0,0,0)).2.1 (iAdd .i64 (Am (fun(x0:(Int×Int))=>(bAnd (iLt x0.2 (lLen x.1)) (bAnd (bNot (iNe (lGet x.1 (iNat x0.2) (0,0,0,0)).1 x0.1)) (bAnd (bNot (iNe (lGet x.1 (iNat x0.2) (0,0,0,0)).2.1 (iAdd .i64 x0.1 1))) (bAnd (bNot (iNe (lGet x.1 (iNat x0.2) (0,0,0,0)).2.2.1 (iAdd .i64 (iAdd .i64 x0.1 1) 1))) (bNot (iNe (lGet x.1 (iNat x0.2) (0,0,0,0)).2.2.2 (iAdd .i64 (iAdd .i64 (iAdd .i64 x0.1 1) 1) 1)))))))) (fun(x0:(Int×Int))=>((iAdd .i64 (iAdd .i64 (iAdd .i64 (iAdd .i64 x0.1 1) 1) 1) 1),(iAdd .i64 x0.2 1))) (x.2,0)).1 1)) (-1) (bSel (iNe (lGet x.1 (iNat (Am (fun(x0:(Int×Int))=>(bAnd (iLt x0.2 (lLen x.1)) (bAnd (bNot (iNe (lGet x.1 (iNat x0.2) (0,0,0,0)).1 x0.1)) (bAnd (bNot (iNe (lGet x.1 (iNat x0.2) (0,0,0,0)).2.1 (iAdd .i64 x0.1 1))) (bAnd (bNot (iNe (lGet x.1 (iNat x0.2) (0,0,0,0)).2.2.1 (iAdd .i64 (iAdd .i64 x0.1 1) 1))) (bNot (iNe (lGet x.1 (iNat x0.2) (0,0,0,0)).2.2.2 (iAdd .i64 (iAdd .i64 (iAdd .i64 x0.1 1) 1) 1)))))))) (fun(x0:(Int×Int))=>((iAdd .i64 (iAdd .i64 (iAdd .i64 (iAdd .i64 x0.1 1) 1) 1) 1),(iAdd .i64 x0.2 1))) (x.2,0)).2) (0,0,0,0)).2.2.1 (iAdd .i64 (iAdd .i64 (Am (fun(x0:(Int×Int))=>(bAnd (iLt x0.2 (lLen x.1)) (bAnd (bNot (iNe (lGet x.1 (iNat x0.2) (0,0,0,0)).1 x0.1)) (bAnd (bNot (iNe (lGet x.1 (iNat x0.2) (0,0,0,0)).2.1 (iAdd .i64 x0.1 1))) (bAnd (bNot (iNe (lGet x.1 (iNat x0.2) (0,0,0,0)).2.2.1 (iAdd .i64 (iAdd .i64 x0.1 1) 1))) (bNot (iNe (lGet x.1 (iNat x0.2) (0,0,0,0)).2.2.2 (iAdd .i64 (iAdd .i64 (iAdd .i64 x0.1 1) 1) 1)))))))) (fun(x0:(Int×Int))=>((iAdd .i64 (iAdd .i64 (iAdd .i64 (iAdd .i64 x0.1 1) 1) 1) 1),(iAdd .i64 x0.2 1))) (x.2,0)).1 1) 1)) (-1) (-1)))) (Am (fun(x0:(Int×Int))=>(bAnd (iLt x0.2 (lLen x.1)) (bAnd (bNot (iNe (lGet x.1 (iNat x0.2) (0,0,0,0)).1 x0.1)) (bAnd (bNot (iNe (lGet x.1 (iNat x0.2) (0,0,0,0)).2.1 (iAdd .i64 x0.1 1))) (bAnd (bNot (iNe (lGet x.1 (iNat x0.2) (0,0,0,0)).2.2.1 (iAdd .i64 (iAdd .i64 x0.1 1) 1))) (bNot (iNe (lGet x.1 (iNat x0.2) (0,0,0,0)).2.2.2 (iAdd .i64 (iAdd .i64 (iAdd .i64 x0.1 1) 1) 1)))))))) (fun(x0:(Int×Int))=>((iAdd .i64 (iAdd .i64 (iAdd .i64 (iAdd .i64 x0.1 1) 1) 1) 1),(iAdd .i64 x0.2 1))) (x.2,0)).1):=(Im.v x).trans (by kernel_rfl)
theorem jT (x):NL x=(LoopOk (fun(x0:(Int×Int))=>(bAnd (iLt x0.2 (lLen x.1)) (bAnd (bNot (iNe (lGet x.1 (iNat x0.2) (0,0,0,0)).1 x0.1)) (bAnd (bNot (iNe (lGet x.1 (iNat x0.2) (0,0,0,0)).2.1 (iAdd .i64 x0.1 1))) (bAnd (bNot (iNe (lGet x.1 (iNat x0.2) (0,0,0,0)).2.2.1 (iAdd .i64 (iAdd .i64 x0.1 1) 1))) (bNot (iNe (lGet x.1 (iNat x0.2) (0,0,0,0)).2.2.2 (iAdd .i64 (iAdd .i64 (iAdd .i64 x0.1 1) 1) 1)))))))) (fun(x0:(Int×Int))=>((iAdd .i64 (iAdd .i64 (iAdd .i64 (iAdd .i64 x0.1 1) 1) 1) 1),(iAdd .i64 x0.2 1))) (fun(x0:(Int×Int))=>(((iLt x0.2 (lLen x.1))=true→((((0:Int)≤x0.2)∧(x0.2<(((List.length x.1):Int))))∧(((iNat x0.2)<(List.length x.1))∧(((iNe (lGet x.1 (iNat x0.2) (0,0,0,0)).1 x0.1)=true→True)∧((iNe (lGet x.1 (iNat x0.2) (0,0,0,0)).1 x0.1)=false→((((0:Int)≤x0.2)∧(x0.2<(((List.length x.1):Int))))∧(((iNat x0.2)<(List.length x.1))∧(((iNe (lGet x.1 (iNat x0.2) (0,0,0,0)).2.1 (iAdd .i64 x0.1 1))=true→True)∧((iNe (lGet x.1 (iNat x0.2) (0,0,0,0)).2.1 (iAdd .i64 x0.1 1))=false→((((0:Int)≤x0.2)∧(x0.2<(((List.length x.1):Int))))∧(((iNat x0.2)<(List.length x.1))∧(((iNe (lGet x.1 (iNat x0.2) (0,0,0,0)).2.2.1 (iAdd .i64 (iAdd .i64 x0.1 1) 1))=true→True)∧((iNe (lGet x.1 (iNat x0.2) (0,0,0,0)).2.2.1 (iAdd .i64 (iAdd .i64 x0.1 1) 1))=false→((((0:Int)≤x0.2)∧(x0.2<(((List.length x.1):Int))))∧((iNat x0.2)<(List.length x.1))))))))))))))))∧((iLt x0.2 (lLen x.1))=false→True))) (x.2,0)):=(Im.o x).trans (by kernel_rfl)
theorem ju (x):NM x=(bSel (iLt (Am (fun(x0:(Int×Int))=>(bAnd (iLt x0.2 (lLen x.1)) (bNot (iLt (Ft ((lGet x.1 (iNat x0.2) []),x0.1)) 0)))) (fun(x0:(Int×Int))=>((Ft ((lGet x.1 (iNat x0.2) []),x0.1)),(iAdd .i64 x0.2 1))) (x.2,0)).2 (lLen x.1)) (-1) (Am (fun(x0:(Int×Int))=>(bAnd (iLt x0.2 (lLen x.1)) (bNot (iLt (Ft ((lGet x.1 (iNat x0.2) []),x0.1)) 0)))) (fun(x0:(Int×Int))=>((Ft ((lGet x.1 (iNat x0.2) []),x0.1)),(iAdd .i64 x0.2 1))) (x.2,0)).1):=(Ih.v x).trans (by kernel_rfl)
theorem ji (x):Qs x=(LoopOk (fun(x0:(Int×Int))=>(bAnd (iLt x0.2 (lLen x.1)) (bNot (iLt (Ft ((lGet x.1 (iNat x0.2) []),x0.1)) 0)))) (fun(x0:(Int×Int))=>((Ft ((lGet x.1 (iNat x0.2) []),x0.1)),(iAdd .i64 x0.2 1))) (fun(x0:(Int×Int))=>(((iLt x0.2 (lLen x.1))=true→((((0:Int)≤x0.2)∧(x0.2<(((List.length x.1):Int))))∧(((iNat x0.2)<(List.length x.1))∧(NL ((lGet x.1 (iNat x0.2) []),x0.1)))))∧((iLt x0.2 (lLen x.1))=false→True))) (x.2,0)):=(Ih.o x).trans (by kernel_rfl)
theorem kv (x):GC x=(bSel (iLt (NM (x.1.2,x.2)) 0) (-1) (NM (x.1.2,x.2))):=(GA.v x).trans (by kernel_rfl)
theorem kr (x):NN x=(Qs (x.1.2,x.2)):=(GA.o x).trans (by kernel_rfl)
attribute [irreducible] Ft NL NM Qs GC NN
end
open Go.RowKit
theorem HRel.below{ι:An}{σ:Ac}{w w':World}(H:HRel ι σ w)(B:Below w.heap.size w w'):HRel ι σ w':=by
 have far:∀ (j:Nat) (b:Blk),σ[j]?=some b→b.k≠.dead→w'.heap[(ι j).b]?=w.heap[(ι j).b]?:=fun j b hj hbk=>B.block _ (H.there j b hj hbk)
 refine⟨fun l blk h hd i v hv=>?_,fun l blk h hk=>?_,H.apart,fun l blk h hd=>HK (H.there l blk h hd) B.size⟩
 · obtain⟨c,x,hx,hr⟩:=H.cells l blk h hd i v hv;exact⟨c,x,by rw[SE (w:=w) (far l blk h hd)];exact hx,hr⟩
 · obtain⟨g1,g2,arr,e,g3,g4⟩:=H.own l blk h hk;exact⟨g1,g2,arr,e,by rw[far l blk h (by rw[hk];decide)];exact g3,g4⟩
theorem Step.below{ι:An}{σ:Ac}{w w':World}(B:Below w.heap.size w w'):Step ι σ w ι σ w':=
 { Step.refl ι σ w with frame:=fun b hb _=>B.block b hb,size:=B.size,os:=B.os,output:=B.output,tape:=B.tape }
def AQ(xs:List (List UInt8))(sep:List UInt8):List UInt8:=sep.intercalate xs
def Od:A3:=fun args h Q=>∃ (u:V) (sep:List UInt8) (xs:List (List UInt8)),args=[u,.str sep]∧xs.length≤140737488355328∧(AQ xs sep).length≤140737488355328 ∧
 ((xs=[]∧(u= .nils∨∃ l o,u= .slice l o 0))∨∃ (l o:Nat) (b:Blk),u= .slice l o xs.length∧0<xs.length∧h[l]?=some b∧b.k≠.dead∧∀ (k:Nat) x,xs[k]?=some x→b.cs[o+k]?=some (.str x))∧Q (.str (AQ xs sep)) h
def ue(P:Program)(g:FuncId):Prop:=
 (∀ (bk o c:Nat) (xs:List ByteArray) (sep:ByteArray) (w:World),(∀ (j:Nat) x,xs[j]?=some x→w.cell? ⟨bk,o+j,none⟩=some (.string x))→bk<w.heap.size→xs.length≤140737488355328→xs.length≤c→(Lib.join (xs.map (·.data.toList)) sep.data.toList).length≤140737488355328 →
  Calls P g #[.slice (some ⟨bk,o,none⟩) xs.length c,.string sep] w fun e w'=>e= .returned (.string ⟨(Lib.join (xs.map (·.data.toList)) sep.data.toList).toArray⟩)∧Below w.heap.size w w') ∧
 ∀ (a:Option Addr) (c:Nat) (sep:ByteArray) (w:World),Calls P g #[.slice a 0 c,.string sep] w fun e w'=>e= .returned (.string ⟨#[]⟩)∧w'=w
theorem pH{P:Program}{g:FuncId}(hs:ue P g):Av P g Od:=by
 rintro Φ ι σ w args xs Q hΦ H hargs ⟨u,sep,ss,rfl,hn,hlen,hu,hQ⟩ _;have hl:=hargs.1
 match xs,hl with
 | [x, y], _=>
   have hy:=FI (hargs.2 1 _ _ rfl rfl (fun _=>0));have hx:=hargs.2 0 _ _ rfl rfl (fun _=>0);subst hy;rcases hu with⟨rfl,hu⟩|⟨l,o,b,rfl,hpos,hb,hk,hc⟩
   · have key:∃ a c,x= .slice a 0 c:=by
      rcases hu with rfl|⟨l,o,rfl⟩
      · obtain⟨a,rfl⟩:=MB hx;exact⟨a,0,rfl⟩
      · obtain⟨_,_,⟨c,rfl,_⟩|⟨_,a,rfl⟩⟩:=E9 hx
        · exact⟨_,c,rfl⟩
        · exact⟨a,0,rfl⟩
     obtain⟨a,c,rfl⟩:=key;refine(hs.2 a c ⟨sep.toArray⟩ w).mono ?_;rintro e w' ⟨rfl,rfl⟩;exact⟨_,.str (AQ [] sep),σ,ι,rfl,hQ,hΦ,fun β=>.str _,H,.refl _ _ _⟩
   · have hl:Φ l=none:=(Wp hx).1 l o _ rfl
     have hb':(kill Φ σ)[l]?=some b:=by rw[MI hl];exact hb
     obtain⟨b1,g1,hc1⟩:=E9 hx;rw[hb'] at g1;cases g1;rcases hc1 with⟨c,rfl,c1,c2⟩|⟨h0,_⟩
     · have hbs:∀ (s:List UInt8),(ByteArray.mk s.toArray).data.toList=s:=fun s=>by simp
       have e1:(ss.map fun s=>ByteArray.mk s.toArray).map (·.data.toList)=ss:=by
        rw[List.map_map];simp[Function.comp_def]
       have hcall:=hs.1 (ι l).b ((ι l).o+o) c (ss.map fun s=>ByteArray.mk s.toArray) ⟨sep.toArray⟩ w (fun j x hx=>by
        rw[Fi] at hx
        cases hj:ss[j]? with
        |none=>rw[hj] at hx;cases hx
        | some s=>
          rw[hj] at hx;cases hx;obtain⟨_,z,q1,q2⟩:=H.cells l b hb' hk (o+j) _ (hc j s hj)
          rw[M1,q1,FI (q2 (fun _=>0))]) (H.there l b hb' hk) (by simpa using hn) (by simpa using c1) (by rw[e1,hbs];exact hlen)
       rw[A0,e1,hbs] at hcall;refine hcall.mono ?_;rintro e w' ⟨rfl,B⟩;exact⟨_,.str (AQ ss sep),σ,ι,rfl,hQ,hΦ,fun β=>.str _,H.below B,Step.below B⟩
     · omega
def RQ:List UInt8:=[97,32,98,32,99,32,100,32,101,32,102,32,103,32,104,32,105,32,106,32,107,32,108,32,109,32,110,32,111,32,112,32,113,32,114,32,115,32,116,32,117,32,118,32,119,32,120,32,121,32,122,32,49,32,50,32,51,32,52,32,53,32,54,32,55,32,56,32,57,32,48,32,101,110,116,101,114,32,101,115,99,32,98,97,99,107,32,116,97,98,32,115,112,97,99,101,32,109,105,110,117,115,32,101,113,117,97,108,32,108,101,102,116,32,114,105,103,104,116,32,117,112,32,100,111,119,110,32,102,49,32,102,50,32,102,51,32,102,52,32,102,53,32,102,54,32,102,55,32,102,56,32,102,57]
def Cp:List (List UInt8):=[[97],[98],[99],[100],[101],[102],[103],[104],[105],[106],[107],[108],[109],[110],[111],[112],[113],[114],[115],[116],[117],[118],[119],[120],[121],[122],[49],[50],[51],[52],[53],[54],[55],[56],[57],[48],[101,110,116,101,114],[101,115,99],[98,97,99,107],[116,97,98],[115,112,97,99,101],[109,105,110,117,115],[101,113,117,97,108],[108,101,102,116],[114,105,103,104,116],[117,112],[100,111,119,110],[102,49],[102,50],[102,51],[102,52],[102,53],[102,54],[102,55],[102,56],[102,57]]
def ID:A3:=fun args h Q=>∃ s sep:List UInt8,args=[.str s,.str sep]∧s.length<4294967281∧1≤sep.length∧Q (.slice h.length 0 (Lib.split s sep).length) (h++[⟨.own,1,(Lib.split s sep).map .str⟩])
def bj(P:Program)(g:FuncId):Prop:=∃ gm,P.globalNamed "internal/bytealg.MaxLen"= some gm∧∀ (s sep:List UInt8) (m:Int) (w:World),s.length<4294967281→1≤sep.length→w.cell? ⟨gm,0,none⟩=some (.int .i64 m) →
 Calls P g #[.string ⟨s.toArray⟩,.string ⟨sep.toArray⟩] w fun e w'=>∃ T,e= .returned (.slice (some ⟨w.heap.size,0,none⟩) (Lib.split s sep).length (Lib.split s sep).length)∧w'=w.alloc (.cells ((Lib.split s sep).map fun s=>Value.string ⟨s.toArray⟩).toArray T)
theorem Gl.maxLen{P:Program}{ι:An}{σ:Ac}{w:World}(h:Gl P ι σ w){gm:Nat}(hg:P.globalNamed "internal/bytealg.MaxLen"= some gm):∃ m,w.cell? ⟨gm,0,none⟩=some (.int .i64 m):=by
 obtain⟨cs,h1,h2⟩:=h.1 "internal/bytealg.MaxLen" (by simp[JK]) gm hg
 unfold Lo at h2;rw[Ad (by decide),Ab rfl] at h2;obtain⟨m,hm⟩:=h2
 exact⟨m,by
  have:w.cell? ⟨gm,0,none⟩=cs[0]?:=by
   simp only[World.var?,hg,ER] at h1;split at h1<;>simp_all [World.cell?]
  rw[this,hm]⟩
theorem oE{P:Program}{g:FuncId}(hs:bj P g):Av P g ID:=by
 obtain⟨gm,hgm,hs⟩:=hs;rintro Φ ι σ w args xs Q hΦ H hargs ⟨s,sep,rfl,hs1,hs2,hQ⟩ hG;have hl:=hargs.1;obtain⟨m,hm⟩:=hG.maxLen hgm
 match xs,hl with
 | [x, y],_=>
   have hx:=FI (hargs.2 0 _ _ rfl rfl (fun _=>0));have hy:=FI (hargs.2 1 _ _ rfl rfl (fun _=>0));subst hx;subst hy;refine(hs s sep m w hs1 hs2 hm).mono ?_;rintro e w' ⟨T,rfl,rfl⟩;generalize Lib.split s sep=ws at hQ
   have hcl:RelCells ι (kill Φ σ) (ws.map .str) (ws.map fun s=>Value.string ⟨s.toArray⟩).toArray.toList:=by
    refine⟨by simp,fun i v hv=>?_⟩;rw[Fi] at hv
    cases hi:ws[i]? with
    |none=>rw[hi] at hv;cases hv
    | some s=>
      rw[hi] at hv;cases hv;exact⟨rfl,.string ⟨s.toArray⟩,by simp[hi],fun β=>.str s⟩
   have B:BRel ι (kill Φ σ) (fun _=>0) [] w w:=⟨fun i cs h=>by simp at h,fun i cs h=>by simp at h,fun i j cs ds _ h=>by simp at h,fun i cs l blk h=>by simp at h⟩;have S:SRel ι (kill Φ σ) (fun _=>0) [] #[]:=⟨AH _,fun i=>by rw[show get [] i=V.undef from rfl];exact Rel.undef _⟩;obtain⟨g1,_,_,g2⟩:=Mw H B S (ws.map fun s=>Value.string ⟨s.toArray⟩).toArray T 1 (ws.map .str) hcl;rw[← IK hΦ] at g1 g2;refine⟨_,.slice σ.length 0 ws.length,_,_,rfl,hQ,hΦ.push _,fun β=>?_,g1,g2⟩;have hlen:(kill Φ σ).length=σ.length:=Dg Φ σ;rw[IK hΦ]
   have:=Rel.slice (ι:=upd ι (kill Φ σ).length ⟨w.heap.size,0,(ws.map fun s=>Value.string ⟨s.toArray⟩).toArray.size⟩) (σ:=kill Φ σ++[⟨.own,1,ws.map .str⟩]) (β:=β) σ.length 0 ws.length ws.length ⟨.own,1,ws.map .str⟩
    (by rw[← hlen];simp) (AH _) (by rw[← hlen,B4];simp) (AH _)
   rw[← hlen,B4] at this;rw[← hlen];simpa using this
def pF(P:Program)(g:FuncId):Prop:=∃ gm,P.globalNamed "internal/bytealg.MaxLen"= some gm∧∀ (s sub:ByteArray) (m:Int) (w:World),s.size<4294967281→w.cell? ⟨gm,0,none⟩=some (.int .i64 m) →
 Calls P g #[.string s,.string sub] w fun e w'=>e= .returned (.int .i64 (Lib.index s.data.toList sub.data.toList))∧w'=w
def N9:A3:=fun args h Q=>∃ s:List UInt8,args=[.str s]∧s.length≤18∧Q (.tup [.int .i64 ((Lib.atoi s).getD 0),.ifc (Lib.atoi s).isSome]) h
def dH(P:Program)(g:FuncId):Prop:=∃ ge,P.globalNamed "strconv.ErrSyntax"= some ge ∧
 (∀ (s:ByteArray) (n:Int) (w:World),s.size≤18→Lib.atoi s.data.toList=some n→Calls P g #[.string s] w fun e w'=>e= .returned (.tuple #[.int .i64 n,.nilIface])∧Below w.heap.size w w') ∧
 ∀ (s:ByteArray) (t:TypeId) (p:Value) (w:World),s.size≤18→Lib.atoi s.data.toList=none→w.var? P "strconv.ErrSyntax"= some #[.iface t p]→Calls P g #[.string s] w fun e w'=>(∃ T v,e= .returned (.tuple #[.int .i64 0,.iface T v]))∧Below w.heap.size w w'
theorem eK{ι:An}{σ:Ac}{β:Nat→Nat}{a b:V}{x y:Value}(ha:a.ok1=true)(hb:b.ok1=true)(h1:Rel ι σ β a x)(h2:Rel ι σ β b y):Rel ι σ β (.tup [a,b]) (.tuple #[x,y]):=by
 refine Rel.tup [a,b] [x,y] rfl (fun v hv=>?_) (fun i v w hv hw=>?_)
 · simp only[BO,List.not_mem_nil,or_false] at hv;rcases hv with rfl|rfl
   · exact ha
   · exact hb
 · match i with
   |0=>cases hv;cases hw;exact h1
   |1=>cases hv;cases hw;exact h2
   |n+2=>cases hv
theorem pV{P:Program}{g:FuncId}(hs:dH P g):Av P g N9:=by
 obtain⟨ge,hge,hok,herr⟩:=hs;rintro Φ ι σ w args xs Q hΦ H hargs ⟨s,rfl,hlt,hQ⟩ hG;have hl:=hargs.1
 match xs,hl with
 | [x],_=>
   have hx:=FI (hargs.2 0 _ _ rfl rfl (fun _=>0));subst hx
   have hsz:(ByteArray.mk s.toArray).size≤18:=by simpa [ByteArray.size] using hlt
   have hd:(ByteArray.mk s.toArray).data.toList=s:=by simp
   cases ha:Lib.atoi s with
   | some n=>
     rw[ha] at hQ;refine(hok ⟨s.toArray⟩ n w hsz (by rw[hd];exact ha)).mono ?_;rintro e w' ⟨rfl,B⟩;exact⟨_,.tup [.int .i64 n,.ifc true],σ,ι,rfl,hQ,hΦ,fun β=>eK rfl rfl (.int .i64 n) .nilIfc,H.below B,Step.below B⟩
   | none=>
     rw[ha] at hQ
     obtain⟨cs,h1,h2⟩:=hG.1 "strconv.ErrSyntax" (by simp[JK]) ge hge
     unfold Lo at h2;rw[Ab rfl] at h2;obtain⟨t,p,rfl⟩:=h2;refine(herr ⟨s.toArray⟩ t p w hsz (by rw[hd];exact ha) h1).mono ?_;rintro e w' ⟨⟨T,v,rfl⟩,B⟩;exact⟨_,.tup [.int .i64 0,.ifc false],σ,ι,rfl,hQ,hΦ,fun β=>eK rfl rfl (.int .i64 0) (.ifc T v),H.below B,Step.below B⟩
def Nz:A3:=fun args h Q=>∃ (s:List UInt8) (b:UInt8),args=[.str s,.str [b]]∧Q (.int .i64 (Lib.indexByte s b)) h
def qZ(P:Program)(g:FuncId):Prop:=∀ (s:ByteArray) (c:UInt8) (w:World),Calls P g #[.string s,.string ⟨#[c]⟩] w fun e w'=>e= .returned (.int .i64 (Lib.indexByte s.data.toList c))∧w'=w
theorem nY{P:Program}{g:FuncId}(hs:qZ P g):Av P g Nz:=by
 rintro Φ ι σ w args xs Q hΦ H hargs ⟨s,b,rfl,hQ⟩ _;have hl:=hargs.1
 match xs,hl with
 | [x,y],_=>
   have hx:=FI (hargs.2 0 _ _ rfl rfl (fun _=>0));have hy:=FI (hargs.2 1 _ _ rfl rfl (fun _=>0));subst hx;subst hy;refine(hs ⟨s.toArray⟩ b w).mono ?_;rintro e w' ⟨rfl,rfl⟩;exact⟨_,.int .i64 (Lib.indexByte s b),σ,ι,rfl,hQ,hΦ,fun β=>by simpa using Rel.int .i64 _,H,.refl _ _ _⟩
def Oa:A3:=fun args h Q=>∃ i:Int,args=[.int .i64 i]∧-9223372036854775808≤i∧i≤9223372036854775807∧Q (.str (Lib.itoa i)) h
def du(P:Program)(g:FuncId):Prop:=∃ gt,P.globalNamed "internal/strconv.uint64pow10"= some gt∧∀ (i:Int) (_:-9223372036854775808≤i) (_:i≤9223372036854775807) (w:World),w.var? P "internal/strconv.uint64pow10"= some ((List.range 20).map fun i=>Value.int .u64 ((10^i:Nat):Int)).toArray →
 Calls P g #[.int .i64 i] w fun e w'=>e= .returned (.string ⟨(Lib.itoa i).toArray⟩)∧Below w.heap.size w w'
theorem pf{P:Program}{g:FuncId}(hs:du P g):Av P g Oa:=by
 obtain⟨gt,hgt,hs⟩:=hs;rintro Φ ι σ w args xs Q hΦ H hargs ⟨i,rfl,h0,h1,hQ⟩ hG;have hl:=hargs.1
 match xs,hl with
 | [x],_=>
   have hx:=DW (hargs.2 0 _ _ rfl rfl (fun _=>0));subst hx
   obtain⟨cs,g1,g2⟩:=hG.1 "internal/strconv.uint64pow10" (by simp[JK]) gt hgt
   unfold Lo at g2;rw[Ad (by decide),Ad (by decide)] at g2;subst g2;refine(hs i h0 h1 w g1).mono ?_;rintro e w' ⟨rfl,B⟩;exact⟨_,.str (Lib.itoa i),σ,ι,rfl,hQ,hΦ,fun β=>.str _,H.below B,Step.below B⟩
section
set_option maxRecDepth 8000
def pL(hs:List HT)(q:QT)(ok:TuX hs→Prop)(v:TuX hs→q.D):Cf:=fun args H Q=>∃ x:TuX hs,DV.encL (En hs x)=args∧ok x∧Q (q.dv (v x)).enc H
theorem OS(hs:List HT)(q:QT)(ok:TuX hs→Prop)(v:TuX hs→q.D):HN (pL hs q ok v) (HH hs q ok v):=by
 intro args g w Q h hg hQ;unfold HH at h
 cases hx:Hl hs args with
 |none=>rw[hx] at h;cases h
 | some x=>
   rw[hx] at h;simp only[Ah,Ak] at h;obtain⟨rfl,rfl⟩:=h;exact⟨x,TB hx,hg,hQ []⟩
theorem Ws{h h0:Ac}{ω0 ω:Nat→W}{ρ:Nat→Nat}{args:List PV}{us:List V}{H:List (List PV)}(R:RS h0 ω0 ω ρ ⟨args,[],H⟩ ⟨us,[],h⟩ X0)(x:V)(hx:x.flat=true):RS h0 ω0 ω ρ ⟨[],[],H⟩ ⟨[],[],h⟩ (X1 (.fl x) x):=by
 have e:∀ p:List Nat,((PV.fl x).fcell p= .fl .undef)∨((PV.fl x).fcell p= .fl x∧x.fcell p=x):=by
  intro p
  match p with
  |[]=>exact .inl rfl
  |[0]=>right;cases x<;>first|exact⟨rfl,rfl⟩|cases hx
  |[n+1]=>exact .inl rfl
  |_::_::_=>exact .inl (by simp[PV.fcell])
 refine(R.forget).handx ?_ (fun p=>?_) (fun p i pb tp=>?_)
 · cases x<;>first|trivial|(refine⟨fun us h=>?_,fun us h=>?_⟩<;>cases h)|cases hx
 · rcases e p with e|⟨e1,e2⟩
   · rw[e];exact .undef _ _
   · rw[e1,e2];exact .v _ _ hx
 · rcases e p with e|⟨e1,e2⟩
   · rw[e];simp[PV.q]
   · rw[e1];simp[PV.q]
theorem W0(x:V):(PV.fl x).nob:=by
 intro p hb pb tp
 match p with
 |[]=>simp[PV.fcell,PV.q]
 |[0]=>simp[PV.fcell,PV.q]
 |[n+1]=>simp[PV.fcell,PV.q]
 |_::_::_=>simp[PV.fcell,PV.q]
theorem JV{h0:Ac}{ω0 ω:Nat→W}{ρ:Nat→Nat}{st:PS}{us:St}(R:RS h0 ω0 ω ρ st us X0)(t:Nat){v:PV}(hv:Aa st.sl t=v)(h1:∀ cs,v≠.agg cs)(h2:∀ vs,v≠.tup vs)(h3:v≠.fl .undef):RC us.hp ω (.at (.s t) [0]) v (get us.sl t):=by
 have r:RC us.hp ω (.at (.s t) [0]) ((Aa st.sl t).fcell [0]) ((get us.sl t).fcell [0]):=R.core.rc (.s t) [0];have sh:=R.sh t;rw[hv] at r sh
 have e1:v.fcell [0]=v:=by cases v<;>first|rfl|exact absurd rfl (h1 _)|exact absurd rfl (h2 _)
 have e2:(get us.sl t).fcell [0]=get us.sl t:=by
  have s1:(∀ us',get us.sl t≠.agg us')∧∀ us',get us.sl t≠.tup us':=by
   cases v with
   |agg cs=>exact absurd rfl (h1 _)
   |tup vs=>exact absurd rfl (h2 _)
   |fl x=>cases x<;>first|exact absurd rfl h3|exact sh
   |_=>exact sh
  generalize get us.sl t=u at s1
  cases u<;>first|rfl|exact absurd rfl (s1.1 _)|exact absurd rfl (s1.2 _)
 rw[e1,e2] at r;exact r
def EZ(l:List (List UInt8)):List (List PV):=l.map fun s=>[.fl (.str s)]
theorem aI(l:List (List UInt8)):(EZ l).flatten=l.map fun s=>.fl (.str s):=by
 induction l with
 |nil=>rfl
 |cons n r ih=>simpa [EZ] using ih
theorem qw{l:List (List UInt8)}{k:Nat}(h:k<l.length):Aa (EZ l).flatten k= .fl (.str (l[k])):=by
 rw[aI,DX,Fi,Ax h];rfl
def Zz:List HT:=[.one .frz (.sl (.one .str)),.one .frz .str]
def Zd:QT:=.one (.one .own .str)
@[irreducible] def Me(x:List (List UInt8)×List UInt8):List UInt8:=(shut fun(x:List (List UInt8)×List UInt8)=>AQ x.1 x.2).1 x
@[irreducible] def L7(x:List (List UInt8)×List UInt8):Prop:=(shut fun(x:List (List UInt8)×List UInt8)=>x.1.length≤140737488355328∧(AQ x.1 x.2).length≤140737488355328).1 x
theorem Uq (x):Me x=AQ x.1 x.2:=by unfold Me;exact congrFun (shut _).2 x
theorem Uo (x):L7 x=(x.1.length≤140737488355328∧(AQ x.1 x.2).length≤140737488355328):=by unfold L7;exact congrFun (shut _).2 x
def ZA:Fm:=HH Zz Zd L7 Me
@[irreducible] def N7:Cf:=pL Zz Zd L7 Me
theorem me:HN N7 ZA:=by unfold N7;exact OS _ _ _ _
theorem mf:Gi Od N7:=by
 unfold N7;rintro h ω0 ρ args us H Q K R hloc ⟨⟨(xs:List (List UInt8)),(sep:List UInt8)⟩,rfl,hok,hQ⟩ hK;have hlen:=R.lsl
 match us,hlen with
 | [u1,u2],_=>
   have c1:RC h ω0 (.at (.s 0) [0]) (.sl .frz (EZ xs)) u1:=JV (us:=⟨[u1,u2],[],h⟩) R 0 rfl (by simp) (by simp) (by simp);have c2:RC h ω0 (.at (.s 1) [0]) (.fl (.str sep)) u2:=JV (us:=⟨[u1,u2],[],h⟩) R 1 rfl (by simp) (by simp) (by simp)
   have e2:u2= .str sep:=by cases c2;rfl
   subst e2;have hok:L7 (xs,sep):=hok;have hQ:Q (.fl (.str (Me (xs,sep)))) H:=hQ;rw[Uo] at hok;rw[Uq] at hQ;refine⟨u1,sep,xs,rfl,hok.1,hok.2,?_,hK _ _ _ _ _ _ hQ (Ws R _ rfl) (W0 _)⟩;generalize hes:EZ xs=es at c1
   have hxl:es.length=xs.length:=by rw[← hes];simp[EZ]
   cases c1 with
   |nil=>exact .inl ⟨Eh (by rw[← hxl];rfl),.inl rfl⟩
   | sl _ _ _ l o n b hb hk hc hne hn hw hle hr=>
     subst hes;rcases K9 xs.length with h0|h0
     · exact .inl ⟨Eh h0,.inr ⟨l,o,by rw[hn,hxl,h0]⟩⟩
     · refine .inr ⟨l,o,b,by rw[hn,hxl],h0,hb,hk,fun k x hx=>?_⟩
       have hkl:k<xs.length:=by
        rcases Bc k xs.length with h|h
        · exact h
        · rw[Bm h] at hx;cases hx
       have hbw:b.w=1:=by
        obtain⟨y,ys,rfl⟩:=List.exists_cons_of_length_pos h0;have:=hw [.fl (.str y)] (by simp[EZ]);simpa using this.symm
       rw[hxl,hbw,Lb] at hle hr;have r:=hr k hkl;rw[qw hkl] at r;rw[Ax hkl] at hx;cases hx
       have e:get b.cs (o+k)= .str (xs[k]):=by
        generalize get b.cs (o+k)=z at r
        cases r with
        |v=>rfl
       rw[CJ,Ax (show o+k<b.cs.length by omega)] at e;rw[Ax (show o+k<b.cs.length by omega)];simpa using e
def YZ:List HT:=[.one .frz .str,.one .frz .str]
def Y4:QT:=.one (.one .own (.sl (.one .str)))
@[irreducible] def Bo(x:List UInt8×List UInt8):List (List UInt8):=(shut fun(x:List UInt8×List UInt8)=>Lib.split x.1 x.2).1 x
@[irreducible] def Ix(x:List UInt8×List UInt8):Prop:=(shut fun(x:List UInt8×List UInt8)=>x.1.length<4294967281∧1≤x.2.length).1 x
theorem QR (x):Bo x=(Lib.split x.1 x.2):=by unfold Bo;exact congrFun (shut _).2 x
theorem QP (x):Ix x=(x.1.length<4294967281∧1≤x.2.length):=by unfold Ix;exact congrFun (shut _).2 x
def QU:Fm:=HH YZ Y4 Ix Bo
@[irreducible] def KF:Cf:=pL YZ Y4 Ix Bo
theorem Uf:HN KF QU:=by unfold KF;exact OS _ _ _ _
theorem sK(s sep:List UInt8):Lib.split s sep≠[]:=by
 unfold Lib.split;generalize Lib.count s sep=k
 cases k with
 |zero=>simp[Lib.splitK]
 |succ k=>unfold Lib.splitK;split<;>simp
theorem ve{h h0:Ac}{ω0 ω:Nat→W}{ρ:Nat→Nat}{args:List PV}{us:List V}{H:List (List PV)}(R:RS h0 ω0 ω ρ ⟨args,[],H⟩ ⟨us,[],h⟩ X0)(l:List (List UInt8))(hl:l≠[]) :
 ∃ ω',RS h0 ω0 ω' ρ ⟨[],[],H⟩ ⟨[],[],h++[⟨.own,1,l.map .str⟩]⟩ (X1 (.sl .own (EZ l)) (.slice h.length 0 l.length)):=by
 have hz:(l.map V.str).all V.flat=true:=by simp[V.flat]
 have h1:=(R.forget).handz hz
 have e1:(l.map V.str).map Bn=l.map fun s=>PV.fl (.str s):=by rw[List.map_map];rfl
 rw[e1] at h1
 have hc:Bi (l.map fun s=>PV.fl (.str s))=true:=by
  rw[← e1];exact KQ hz
 obtain⟨ω',h2⟩:=h1.newslice (es:=EZ l) (w:=1) hc (by intro e;exact hl (by simpa [EZ] using e)) (fun e he=>by simp only[EZ,List.mem_map] at he;obtain⟨_,_,rfl⟩:=he;rfl) (fun k _=>by rw[aI]) (by simp[EZ])
 have e2:(EZ l).length=l.length:=by simp[EZ]
 rw[e2] at h2
 exact⟨ω',h2⟩
theorem wo(es:List (List PV)):(PV.sl .own es).nob:=by
 intro p hb pb tp
 match p with
 |[]=>simp[PV.fcell,PV.q]
 |[0]=>simp[PV.fcell,PV.q]
 |[n+1]=>simp[PV.fcell,PV.q]
 |_::_::_=>simp[PV.fcell,PV.q]
theorem Uj:Gi ID KF:=by
 unfold KF;rintro h ω0 ρ args us H Q K R hloc ⟨⟨(s:List UInt8),(sep:List UInt8)⟩,rfl,hok,hQ⟩ hK;have hlen:=R.lsl
 match us,hlen with
 | [u1,u2],_=>
   have c1:RC h ω0 (.at (.s 0) [0]) (.fl (.str s)) u1:=JV (us:=⟨[u1,u2],[],h⟩) R 0 rfl (by simp) (by simp) (by simp);have c2:RC h ω0 (.at (.s 1) [0]) (.fl (.str sep)) u2:=JV (us:=⟨[u1,u2],[],h⟩) R 1 rfl (by simp) (by simp) (by simp)
   have e1:u1= .str s:=by cases c1;rfl
   have e2:u2= .str sep:=by cases c2;rfl
   subst e1;subst e2;have hok:Ix (s,sep):=hok;have hQ:Q (.sl .own (EZ (Bo (s,sep)))) H:=hQ;rw[QP] at hok;rw[QR] at hQ;obtain⟨ω',R'⟩:=ve R (Lib.split s sep) (sK s sep);exact⟨s,sep,rfl,hok.1,hok.2,hK _ _ _ _ _ _ hQ R' (wo _)⟩
def Ya:List HT:=[.one .frz .str,.one .frz .str]
def X9:QT:=.one (.one .own (.int .i64))
@[irreducible] def DJ(x:List UInt8×List UInt8):Int:=(shut fun(x:List UInt8×List UInt8)=>Lib.indexByte x.1 (x.2.getD 0 0)).1 x
@[irreducible] def Jm(x:List UInt8×List UInt8):Prop:=(shut fun(x:List UInt8×List UInt8)=>x.2.length=1).1 x
theorem TP (x):DJ x=Lib.indexByte x.1 (x.2.getD 0 0):=by unfold DJ;exact congrFun (shut _).2 x
theorem TQ (x):Jm x=(x.2.length=1):=by unfold Jm;exact congrFun (shut _).2 x
def Yb:Fm:=HH Ya X9 Jm DJ
@[irreducible] def Ny:Cf:=pL Ya X9 Jm DJ
theorem iQ:HN Ny Yb:=by unfold Ny;exact OS _ _ _ _
theorem iP:Gi Nz Ny:=by
 unfold Ny;rintro h ω0 ρ args us H Q K R hloc ⟨⟨(s:List UInt8),(sep:List UInt8)⟩,rfl,hok,hQ⟩ hK;have hlen:=R.lsl
 match us,hlen with
 | [u1,u2],_=>
   have c1:RC h ω0 (.at (.s 0) [0]) (.fl (.str s)) u1:=JV (us:=⟨[u1,u2],[],h⟩) R 0 rfl (by simp) (by simp) (by simp);have c2:RC h ω0 (.at (.s 1) [0]) (.fl (.str sep)) u2:=JV (us:=⟨[u1,u2],[],h⟩) R 1 rfl (by simp) (by simp) (by simp)
   have e1:u1= .str s:=by cases c1;rfl
   have e2:u2= .str sep:=by cases c2;rfl
   subst e1;subst e2;have hok:Jm (s,sep):=hok;have hQ:Q (.fl (.int .i64 (DJ (s,sep)))) H:=hQ;rw[TQ] at hok;rw[TP] at hQ;obtain⟨b,rfl⟩:=List.length_eq_one_iff.1 hok;exact⟨s,b,rfl,hK _ _ _ _ _ _ hQ (Ws R _ rfl) (W0 _)⟩
def Zk:List HT:=[.one .frz (.int .i64)]
def Zs:QT:=.one (.one .own .str)
@[irreducible] def Ma(x:Int):List UInt8:=(shut fun(x:Int)=>Lib.itoa x).1 x
@[irreducible] def L8(x:Int):Prop:=(shut fun(x:Int)=>-9223372036854775808≤x∧x≤9223372036854775807).1 x
theorem Us (x):Ma x=(Lib.itoa x):=by unfold Ma;exact congrFun (shut _).2 x
theorem Un (x):L8 x=(-9223372036854775808≤x∧x≤9223372036854775807):=by unfold L8;exact congrFun (shut _).2 x
def Zr:Fm:=HH Zk Zs L8 Ma
@[irreducible] def Oc:Cf:=pL Zk Zs L8 Ma
theorem mc:HN Oc Zr:=by unfold Oc;exact OS _ _ _ _
theorem mn:Gi Oa Oc:=by
 unfold Oc;rintro h ω0 ρ args us H Q K R hloc ⟨(x:Int),rfl,hok,hQ⟩ hK;have hlen:=R.lsl
 match us,hlen with
 | [u1],_=>
   have c1:RC h ω0 (.at (.s 0) [0]) (.fl (.int .i64 x)) u1:=JV (us:=⟨[u1],[],h⟩) R 0 rfl (by simp) (by simp) (by simp)
   have e1:u1= .int .i64 x:=by cases c1;rfl
   subst e1;have hok:L8 x:=hok;have hQ:Q (.fl (.str (Ma x))) H:=hQ;rw[Un] at hok;rw[Us] at hQ;exact⟨x,rfl,hok.1,hok.2,hK _ _ _ _ _ _ hQ (Ws R _ rfl) (W0 _)⟩
def Zu:List HT:=[.one .frz .str]
def Zn:QT:=.tup [.one .own (.int .i64),.one .own .ifc]
@[irreducible] def Dy(x:List UInt8):Int×Bool:=(shut fun(x:List UInt8)=>((Lib.atoi x).getD 0,(Lib.atoi x).isSome)).1 x
@[irreducible] def L9(x:List UInt8):Prop:=(shut fun(x:List UInt8)=>x.length≤18).1 x
theorem Y9 (x):Dy x=(((Lib.atoi x).getD 0,(Lib.atoi x).isSome)):=by unfold Dy;exact congrFun (shut _).2 x
theorem Y3 (x):L9 x=(x.length≤18):=by unfold L9;exact congrFun (shut _).2 x
def Zf:Fm:=HH Zu Zn L9 Dy
@[irreducible] def Oe:Cf:=pL Zu Zn L9 Dy
theorem mh:HN Oe Zf:=by unfold Oe;exact OS _ _ _ _
theorem cz{x:V}(hx:x.flat=true):Shp1 (.fl x) x:=by
 cases x<;>first|trivial|(refine⟨fun us h=>?_,fun us h=>?_⟩<;>cases h)|cases hx
theorem aW{x:V}(hx:x.flat=true):x.cells=[x]:=by
 cases x<;>first|rfl|cases hx
theorem uJ{h h0:Ac}{ω0 ω:Nat→W}{ρ:Nat→Nat}{args:List PV}{us:List V}{H:List (List PV)}(R:RS h0 ω0 ω ρ ⟨args,[],H⟩ ⟨us,[],h⟩ X0)(x y:V)(hx:x.flat=true)(hy:y.flat=true) :
 RS h0 ω0 ω ρ ⟨[],[],H⟩ ⟨[],[],h⟩ (X1 (.tup [.fl x,.fl y]) (.tup [x,y]))∧(PV.tup [.fl x,.fl y]).nob:=by
 have e:∀ p:List Nat,((PV.tup [.fl x,.fl y]).fcell p= .fl .undef)∨∃ z,z.flat=true∧(PV.tup [.fl x,.fl y]).fcell p= .fl z∧(V.tup [x,y]).fcell p=z:=by
  intro p
  match p with
  |[]=>exact .inl rfl
  |[_]=>exact .inl rfl
  |[0,0]=>exact .inr ⟨x,hx,rfl,by show get x.cells 0=x;rw[aW hx];rfl⟩
  |[1,0]=>exact .inr ⟨y,hy,rfl,by show get y.cells 0=y;rw[aW hy];rfl⟩
  |[0,c+1]=>exact .inl rfl
  |[1,c+1]=>exact .inl rfl
  |[i+2,0]=>exact .inl rfl
  |[i+2,c+1]=>exact .inl rfl
  |_::_::_::_=>exact .inl rfl
 refine⟨(R.forget).handx ⟨[x,y],rfl,rfl,fun i=>?_⟩ (fun p=>?_) (fun p i pb tp=>?_),fun p hb pb tp=>?_⟩
 · match i with
   |0=>exact cz hx
   |1=>exact cz hy
   |n+2=>trivial
 · rcases e p with e|⟨z,hz,e1,e2⟩
   · rw[e];exact .undef _ _
   · rw[e1,e2];exact .v _ _ hz
 · rcases e p with e|⟨z,hz,e1,e2⟩
   · rw[e];simp[PV.q]
   · rw[e1];simp[PV.q]
 · rcases e p with e|⟨z,hz,e1,e2⟩
   · rw[e];simp[PV.q]
   · rw[e1];simp[PV.q]
theorem mi:Gi N9 Oe:=by
 unfold Oe;rintro h ω0 ρ args us H Q K R hloc ⟨(x:List UInt8),rfl,hok,hQ⟩ hK;have hlen:=R.lsl
 match us,hlen with
 | [u1],_=>
   have c1:RC h ω0 (.at (.s 0) [0]) (.fl (.str x)) u1:=JV (us:=⟨[u1],[],h⟩) R 0 rfl (by simp) (by simp) (by simp)
   have e1:u1= .str x:=by cases c1;rfl
   subst e1;have hok:L9 x:=hok;have hQ:Q (.tup [.fl (.int .i64 (Dy x).1),.fl (.ifc (Dy x).2)]) H:=hQ;rw[Y3] at hok;rw[Y9] at hQ;have r:=uJ R (.int .i64 ((Lib.atoi x).getD 0)) (.ifc (Lib.atoi x).isSome) rfl rfl;exact⟨x,rfl,hok,hK _ _ _ _ _ _ hQ r.1 r.2⟩
end
section
set_option maxRecDepth 8000
def kE:DCode:=(.seq [1,0] (.region [oa 0 4 (.mv (.c .nils))]) (.seq [5,1,0] (.region [⟨0,some 8,.a false (.litSlice 1 0 [] []) (some (.one (.str))),none,[]⟩,om 1 5 8]) (.seq [6,5,1,0] (.region [oi 0 6 0]) (.seq [5] (.seq [7,6,5,1,0] (.region [oi 0 7 0]) (.block 0 (.loop [0,1,5,6,7] 1 (.seq [7,6,5,1,0] (.seq [12,7,6,5,1,0] (.region [om 0 9 7,om 1 10 0,oa 2 11 (.lenT (.t 10)),oa 3 12 (.bin .leq (.t 9) (.t 11))]) (.cond (.t 12) .skip (.exit 0))) (.seq [7,6,5,1,0] (.block 1 (.seq [25,7,6,5,1,0] (.region [om 0 15 7,om 1 16 0,oa 2 17 (.lenT (.t 16)),oa 3 18 (.bin .eql (.t 15) (.t 17)),om 4 19 18,og 5 20 (.mv (.t 0)) 19 false,og 6 21 (.mv (.t 7)) 19 false,og 7 22 (.index (.t 20) (.t 21)) 19 false,og 8 23 (.mv (.t 1)) 19 false,og 9 24 (.bin .eql (.t 22) (.t 23)) 19 false,oa 10 25 (.pick (.t 19) (.c (.bool true)) (.t 24))]) (.cond (.t 25) (.seq [7,5,1,0] (.region [om 0 26 5,om 1 27 0,om 2 28 6,om 3 29 7,oa 4 30 (.substr (.t 27) (some (.t 28)) (some (.t 29))),⟨5,some 31,.a false (.litSlice 1 1 [(.str [])] [(0,1,(.t 30))]) (some (.one (.str))),none,[]⟩,oa 6 32 (.app 1 (.t 26) (.t 31)),om 7 5 32]) (.region [om 0 33 7,oa 1 34 (.bin .add (.t 33) (.c (.int .i64 1))),om 2 6 34])) .skip))) (.region [om 0 13 7,oa 1 14 (.bin .add (.t 13) (.c (.int .i64 1))),om 2 7 14])))))) (.seq [4] (.region [om 0 35 5,om 1 4 35]) .ret)))))
def DP:Fn:=⟨⟨2,36,0,false,[.tmp 4],kE⟩,[.one .frz (.str),.one .frz (.int .u8)],.one (.one .own (.sl (.one (.str))))⟩
theorem NR:DP.A:=Be trivial
def Al:List UInt8×Int→List (List UInt8):=DP.V
def Iu:List UInt8×Int→Prop:=DP.O
theorem NQ:DP.B:=Bj trivial (by kernel_rfl) (fun x=>by kernel_rfl)
def l8:DCode:=(.seq [] (.region [oa 0 0 (.mv (.c .nils))]) (.seq [0] (.region [oF 0 1 DP [(.c (.str [97,32,98,32,99,32,100,32,101,32,102,32,103,32,104,32,105,32,106,32,107,32,108,32,109,32,110,32,111,32,112,32,113,32,114,32,115,32,116,32,117,32,118,32,119,32,120,32,121,32,122,32,49,32,50,32,51,32,52,32,53,32,54,32,55,32,56,32,57,32,48,32,101,110,116,101,114,32,101,115,99,32,98,97,99,107,32,116,97,98,32,115,112,97,99,101,32,109,105,110,117,115,32,101,113,117,97,108,32,108,101,102,116,32,114,105,103,104,116,32,117,112,32,100,111,119,110,32,102,49,32,102,50,32,102,51,32,102,52,32,102,53,32,102,54,32,102,55,32,102,56,32,102,57])),(.c (.int .u8 32))],om 1 0 1]) .ret))
def IF:Fn:=⟨⟨0,2,0,false,[.tmp 0],l8⟩,[],.one (.one .own (.sl (.one (.str))))⟩
theorem ma:IF.A:=Be ⟨NR,trivial⟩
def Mb:Unit→List (List UInt8):=IF.V
def QW:Unit→Prop:=IF.O
theorem ml:IF.B:=Bj ⟨NQ,trivial⟩ (by kernel_rfl) (fun x=>by kernel_rfl)
def kZ:DCode:=(.seq [0] (.region [oa 0 2 (.mv (.c (.str [])))]) (.seq [0] (.seq [5,0] (.region [om 0 3 0,oF 1 4 Cn [(.t 3),(.c (.int .i64 1)),(.c (.int .i64 56))],oa 2 5 (.un .not (.t 4))]) (.cond (.t 5) (.seq [2] (.region [oa 0 2 (.mv (.c (.str [])))]) .ret) .skip)) (.seq [2] (.region [oF 0 6 IF [],om 1 7 0,oa 2 8 (.bin .sub (.t 7) (.c (.int .i64 1))),oa 3 9 (.indexA 1 (.t 6) (.t 8)),ob 4 10 (.loadH none (.t 9)),om 5 2 10]) .ret)))
def DR:Fn:=⟨⟨1,11,0,true,[.tmp 2],kZ⟩,[.one .frz (.int .i64)],.one (.one .own (.str))⟩
theorem NV:DR.A:=Be ⟨Jx,ma,trivial⟩
def BE:Int→List UInt8:=DR.V
def Jt:Int→Prop:=DR.O
theorem N1:DR.B:=Bj ⟨Jw,ml,trivial⟩ (by kernel_rfl) (fun x=>by kernel_rfl)
def kg:DCode:=(.seq [0] (.region [oa 0 2 (.mv (.c (.str [])))]) (.seq [3,0] (.region [oa 0 3 (.mv (.c (.str [])))]) (.seq [3] (.seq [4,3,0] (.region [oi 0 4 0]) (.block 0 (.loop [0,3,4] 1 (.seq [4,3,0] (.seq [10,4,3,0] (.region [om 0 5 4,oa 1 6 (.bin .lss (.t 5) (.c (.int .i64 4))),om 2 7 6,og 3 8 (.mv (.t 0)) 7 true,⟨4,some 9,.call false Cn.S Cn.P Cn.D [(.t 8),(.c (.int .i64 1)),(.c (.int .i64 15))],(some (7,true)),[]⟩,oa 5 10 (.pick (.t 7) (.t 9) (.c (.bool false)))]) (.cond (.t 10) .skip (.exit 0))) (.seq [4,3,0] (.block 1 (.seq [17,4,3,0] (.region [om 0 13 0,om 1 14 4,oa 2 15 (.bin .shr (.t 13) (.t 14)),oa 3 16 (.bin .and (.t 15) (.c (.int .i64 1))),oa 4 17 (.bin .eql (.t 16) (.c (.int .i64 1)))]) (.cond (.t 17) (.region [om 0 18 3,om 1 19 4,om 2 20 4,oa 3 21 (.bin .add (.t 20) (.c (.int .i64 1))),oa 4 22 (.substr (.c (.str [67,83,65,71])) (some (.t 19)) (some (.t 21))),oa 5 23 (.bin .add (.t 18) (.t 22)),om 6 3 23]) .skip))) (.region [om 0 11 4,oa 1 12 (.bin .add (.t 11) (.c (.int .i64 1))),om 2 4 12])))))) (.seq [2] (.region [om 0 24 3,om 1 2 24]) .ret))))
def Ey:Fn:=⟨⟨1,25,0,true,[.tmp 2],kg⟩,[.one .frz (.int .i64)],.one (.one .own (.str))⟩
theorem QF:Ey.A:=Be ⟨Jx,trivial⟩
def B3:Int→List UInt8:=Ey.V
def Jp:Int→Prop:=Ey.O
theorem QG:Ey.B:=Bj ⟨Jw,trivial⟩ (by kernel_rfl) (fun x=>by kernel_rfl)
def lr:DCode:=(.seq [0] (.region [oa 0 2 (.mv (.c (.str [])))]) (.seq [0] (.seq [8,0] (.region [om 0 3 0,oa 1 4 (.bin .lss (.t 3) (.c (.int .i64 1))),om 2 5 4,og 3 6 (.mv (.t 0)) 5 false,og 4 7 (.bin .gtr (.t 6) (.c (.int .i64 56))) 5 false,oa 5 8 (.pick (.t 5) (.c (.bool true)) (.t 7))]) (.cond (.t 8) (.seq [2] (.region [oa 0 2 (.mv (.c (.str [])))]) .ret) .skip)) (.seq [2] (.region [oc 0 9 ID KF QU [(.c (.str [97,32,98,32,99,32,100,32,101,32,102,32,103,32,104,32,105,32,106,32,107,32,108,32,109,32,110,32,111,32,112,32,113,32,114,32,115,32,116,32,117,32,118,32,119,32,120,32,121,32,122,32,49,32,50,32,51,32,52,32,53,32,54,32,55,32,56,32,57,32,48,32,101,110,116,101,114,32,101,115,99,32,98,97,99,107,32,116,97,98,32,115,112,97,99,101,32,109,105,110,117,115,32,101,113,117,97,108,32,108,101,102,116,32,114,105,103,104,116,32,117,112,32,100,111,119,110,32,102,49,32,102,50,32,102,51,32,102,52,32,102,53,32,102,54,32,102,55,32,102,56,32,102,57])),(.c (.str [32]))],om 1 10 0,oa 2 11 (.bin .sub (.t 10) (.c (.int .i64 1))),oa 3 12 (.indexA 1 (.t 9) (.t 11)),ob 4 13 (.loadH none (.t 12)),om 5 2 13]) .ret)))
def EE:Fn:=⟨⟨1,14,0,true,[.tmp 2],lr⟩,[.one .frz (.int .i64)],.one (.one .own (.str))⟩
theorem QM:EE.A:=Be ⟨Uj,trivial⟩
def Hq:Int→List UInt8:=EE.V
def KB:Int→Prop:=EE.O
theorem QQ:EE.B:=Bj ⟨Uf,trivial⟩ (by kernel_rfl) (fun x=>by kernel_rfl)
def kn:DCode:=(.seq [0] (.region [oa 0 2 (.mv (.c (.str [])))]) (.seq [0] (.seq [11,0] (.region [om 0 6 0,oa 1 7 (.bin .lss (.t 6) (.c (.int .i64 1))),om 2 8 7,og 3 9 (.mv (.t 0)) 8 false,og 4 10 (.bin .gtr (.t 9) (.c (.int .i64 15))) 8 false,oa 5 11 (.pick (.t 8) (.c (.bool true)) (.t 10))]) (.cond (.t 11) (.seq [2] (.region [oa 0 2 (.mv (.c (.str [])))]) .ret) .skip)) (.seq [3,0] (.region [oa 0 3 (.mv (.c (.str [])))]) (.seq [3] (.seq [14,13,12,3,0] (.region [⟨0,some 12,.a false (.litSlice 1 4 [(.str []),(.str []),(.str []),(.str [])] [(0,1,(.c (.str [67]))),(1,1,(.c (.str [83]))),(2,1,(.c (.str [65]))),(3,1,(.c (.str [71])))]) (some (.one (.str))),none,[]⟩,oa 1 13 (.len (.t 12)),oi 2 14 0]) (.block 0 (.loop [0,3,12,13,14] 1 (.seq [15,14,13,12,3,0] (.region [oa 0 15 (.bin .lss (.t 14) (.t 13))]) (.seq [14,13,12,3,0] (.cond (.t 15) .skip (.exit 0)) (.seq [14,13,12,3,0] (.block 1 (.seq [14,13,12,5,4,3,0] (.region [om 0 16 14,oa 1 17 (.indexA 1 (.t 12) (.t 14)),oa 2 18 (.loadH none (.t 17)),om 3 4 16,om 4 5 18]) (.seq [22,14,13,12,5,3,0] (.region [om 0 19 0,om 1 20 4,oF 2 21 IJ [(.t 19),(.t 20)],oa 3 22 (.bin .eql (.t 21) (.c (.int .i64 1)))]) (.cond (.t 22) (.region [om 0 23 3,om 1 24 5,oa 2 25 (.bin .add (.t 23) (.t 24)),om 3 3 25]) .skip)))) (.region [oa 0 26 (.bin .add (.t 14) (.c (.int .i64 1))),om 1 14 26]))))))) (.seq [2] (.region [om 0 27 3,om 1 2 27]) .ret)))))
def Ez:Fn:=⟨⟨1,28,0,true,[.tmp 2],kn⟩,[.one .frz (.int .i64)],.one (.one .own (.str))⟩
theorem QD:Ez.A:=Be ⟨oe,trivial⟩
def Fu:Int→List UInt8:=Ez.V
def Jq:Int→Prop:=Ez.O
theorem QB:Ez.B:=Bj ⟨oQ,trivial⟩ (by kernel_rfl) (fun x=>by kernel_rfl)
def lg:DCode:=(.seq [1,0] (.region [oa 0 4 (.mv (.c (.str [])))]) (.seq [4] (.region [on 0 5 0,om 1 6 1,oc 2 7 Od N7 ZA [(.t 5),(.t 6)],om 3 4 7]) .ret))
def GG:Fn:=⟨⟨2,8,0,true,[.tmp 4],lg⟩,[.one .frz (.sl (.one (.str))),.one .frz (.str)],.one (.one .own (.str))⟩
theorem YK:GG.A:=Be ⟨mf,trivial⟩
def KG:List (List UInt8)×List UInt8→List UInt8:=GG.V
def L5:List (List UInt8)×List UInt8→Prop:=GG.O
theorem YL:GG.B:=Bj ⟨me,trivial⟩ (by kernel_rfl) (fun x=>by kernel_rfl)
end
section
set_option maxRecDepth 100000
def NJ(x:List UInt8×Int)(x0:((List (List UInt8))×(Int×Int))):Bool:=(iLe x0.2.2 (lLen x.1))
def Qy(x:List UInt8×Int)(x0:((List (List UInt8))×(Int×Int))):((List (List UInt8))×(Int×Int)):=((bSel (bOr (iEq x0.2.2 (lLen x.1)) (iEq (sGet x.1 x0.2.2) x.2)) (lApp x0.1 [(lSub x.1 (iNat x0.2.1) (iNat x0.2.2))]) x0.1),(bSel (bOr (iEq x0.2.2 (lLen x.1)) (iEq (sGet x.1 x0.2.2) x.2)) (iAdd .i64 x0.2.2 1) x0.2.1),(iAdd .i64 x0.2.2 1))
def TX(x:List UInt8×Int)(x0:((List (List UInt8))×(Int×Int))):Prop:=(((iLe x0.2.2 (lLen x.1))=true→((((iEq x0.2.2 (lLen x.1))=true→True)∧((iEq x0.2.2 (lLen x.1))=false→(((0:Int)≤x0.2.2)∧(x0.2.2<(((List.length x.1):Int))))))∧(((bOr (iEq x0.2.2 (lLen x.1)) (iEq (sGet x.1 x0.2.2) x.2))=true→(((((0:Int)≤x0.2.1)∧((0:Int)≤x0.2.2))∧(((iNat x0.2.1)≤(iNat x0.2.2))∧((iNat x0.2.2)≤(List.length x.1))))∧(AW (((List.length x0.1)+(List.length [(lSub x.1 (iNat x0.2.1) (iNat x0.2.2))]))*1))))∧((bOr (iEq x0.2.2 (lLen x.1)) (iEq (sGet x.1 x0.2.2) x.2))=false→True))))∧((iLe x0.2.2 (lLen x.1))=false→True))
theorem kC (x):Al x=(Am (NJ x) (Qy x) ([],0,0)).1:=(DP.v x).trans (by kernel_rfl)
theorem kU (x):Iu x=(LoopOk (NJ x) (Qy x) (TX x) ([],0,0)):=(DP.o x).trans (by kernel_rfl)
theorem lZ (x):Mb x=(Al ([(97:UInt8),32,98,32,99,32,100,32,101,32,102,32,103,32,104,32,105,32,106,32,107,32,108,32,109,32,110,32,111,32,112,32,113,32,114,32,115,32,116,32,117,32,118,32,119,32,120,32,121,32,122,32,49,32,50,32,51,32,52,32,53,32,54,32,55,32,56,32,57,32,48,32,101,110,116,101,114,32,101,115,99,32,98,97,99,107,32,116,97,98,32,115,112,97,99,101,32,109,105,110,117,115,32,101,113,117,97,108,32,108,101,102,116,32,114,105,103,104,116,32,117,112,32,100,111,119,110,32,102,49,32,102,50,32,102,51,32,102,52,32,102,53,32,102,54,32,102,55,32,102,56,32,102,57],32)):=(IF.v x).trans (by kernel_rfl)
theorem mg (x):QW x=(Iu ([(97:UInt8),32,98,32,99,32,100,32,101,32,102,32,103,32,104,32,105,32,106,32,107,32,108,32,109,32,110,32,111,32,112,32,113,32,114,32,115,32,116,32,117,32,118,32,119,32,120,32,121,32,122,32,49,32,50,32,51,32,52,32,53,32,54,32,55,32,56,32,57,32,48,32,101,110,116,101,114,32,101,115,99,32,98,97,99,107,32,116,97,98,32,115,112,97,99,101,32,109,105,110,117,115,32,101,113,117,97,108,32,108,101,102,116,32,114,105,103,104,116,32,117,112,32,100,111,119,110,32,102,49,32,102,50,32,102,51,32,102,52,32,102,53,32,102,54,32,102,55,32,102,56,32,102,57],32)):=(IF.o x).trans (by kernel_rfl)
theorem QS (x):BE x=(bSel (bNot (Co (x,1,56))) [] (lGet (Mb PUnit.unit) (iNat (iSub .i64 x 1)) [])):=(DR.v x).trans (by kernel_rfl)
theorem lE (x):Jt x=((F6 (x,1,56))∧(((bNot (Co (x,1,56)))=true→True)∧((bNot (Co (x,1,56)))=false→((QW PUnit.unit)∧((((0:Int)≤(iSub .i64 x 1))∧((iSub .i64 x 1)<(((List.length (Mb PUnit.unit)):Int))))∧((iNat (iSub .i64 x 1))<(List.length (Mb PUnit.unit)))))))):=(DR.o x).trans (by kernel_rfl)
def Ku(x:Int)(x0:((List UInt8)×Int)):Bool:=(bAnd (iLt x0.2 4) (Co (x,1,15)))
def NF(x:Int)(x0:((List UInt8)×Int)):((List UInt8)×Int):=((bSel (iEq (iAnd .i64 (iShr .i64 x x0.2) 1) 1) (sAdd x0.1 (lSub [(67:UInt8),83,65,71] (iNat x0.2) (iNat (iAdd .i64 x0.2 1)))) x0.1),(iAdd .i64 x0.2 1))
def LO(x:Int)(x0:((List UInt8)×Int)):Prop:=((((iLt x0.2 4)=true→(F6 (x,1,15)))∧((iLt x0.2 4)=false→True))∧(((bAnd (iLt x0.2 4) (Co (x,1,15)))=true→(((0:Int)≤x0.2)∧(((iEq (iAnd .i64 (iShr .i64 x x0.2) 1) 1)=true→(((((0:Int)≤x0.2)∧((0:Int)≤(iAdd .i64 x0.2 1)))∧(((iNat x0.2)≤(iNat (iAdd .i64 x0.2 1)))∧((iNat (iAdd .i64 x0.2 1))≤(List.length [(67:UInt8),83,65,71]))))∧(((List.length x0.1)+(List.length (lSub [(67:UInt8),83,65,71] (iNat x0.2) (iNat (iAdd .i64 x0.2 1)))))≤9223372036854775807)))∧((iEq (iAnd .i64 (iShr .i64 x x0.2) 1) 1)=false→True))))∧((bAnd (iLt x0.2 4) (Co (x,1,15)))=false→True)))
theorem km (x):B3 x=(Am (Ku x) (NF x) ([],0)).1:=(Ey.v x).trans (by kernel_rfl)
theorem ku (x):Jp x=(LoopOk (Ku x) (NF x) (LO x) ([],0)):=(Ey.o x).trans (by kernel_rfl)
def NP(x:List (List UInt8)×List UInt8)(x0:((List Int)×Int)):Bool:=(iLt x0.2 (lLen x.1))
def QA(x:List (List UInt8)×List UInt8)(x0:((List Int)×Int)):((List Int)×Int):=((lApp (bSel (iGt x0.2 0) (lApp x0.1 (sRow x.2)) x0.1) (sRow (lGet x.1 (iNat x0.2) []))),(iAdd .i64 x0.2 1))
def QI(x:List (List UInt8)×List UInt8)(x0:((List Int)×Int)):Prop:=(((iLt x0.2 (lLen x.1))=true→((((iGt x0.2 0)=true→(AW (((List.length x0.1)+(List.length (sRow x.2)))*1)))∧((iGt x0.2 0)=false→True))∧((((0:Int)≤x0.2)∧(x0.2<(((List.length x.1):Int))))∧(((iNat x0.2)<(List.length x.1))∧(AW (((List.length (bSel (iGt x0.2 0) (lApp x0.1 (sRow x.2)) x0.1))+(List.length (sRow (lGet x.1 (iNat x0.2) []))))*1))))))∧((iLt x0.2 (lLen x.1))=false→True))
@[irreducible] def KD(x:List (List UInt8)×List UInt8):List UInt8:=(rowS (Am (NP x) (QA x) ([],0)).1)
@[irreducible] def L4(x:List (List UInt8)×List UInt8):Prop:=(LoopOk (NP x) (QA x) (QI x) ([],0))
theorem lG (x):Hq x=(bSel (bOr (iLt x 1) (iGt x 56)) [] (lGet (Bo ([(97:UInt8),32,98,32,99,32,100,32,101,32,102,32,103,32,104,32,105,32,106,32,107,32,108,32,109,32,110,32,111,32,112,32,113,32,114,32,115,32,116,32,117,32,118,32,119,32,120,32,121,32,122,32,49,32,50,32,51,32,52,32,53,32,54,32,55,32,56,32,57,32,48,32,101,110,116,101,114,32,101,115,99,32,98,97,99,107,32,116,97,98,32,115,112,97,99,101,32,109,105,110,117,115,32,101,113,117,97,108,32,108,101,102,116,32,114,105,103,104,116,32,117,112,32,100,111,119,110,32,102,49,32,102,50,32,102,51,32,102,52,32,102,53,32,102,54,32,102,55,32,102,56,32,102,57],[(32:UInt8)])) (iNat (iSub .i64 x 1)) [])):=(EE.v x).trans (by kernel_rfl)
theorem lC (x):KB x=(((bOr (iLt x 1) (iGt x 56))=true→True)∧((bOr (iLt x 1) (iGt x 56))=false→((Ix ([(97:UInt8),32,98,32,99,32,100,32,101,32,102,32,103,32,104,32,105,32,106,32,107,32,108,32,109,32,110,32,111,32,112,32,113,32,114,32,115,32,116,32,117,32,118,32,119,32,120,32,121,32,122,32,49,32,50,32,51,32,52,32,53,32,54,32,55,32,56,32,57,32,48,32,101,110,116,101,114,32,101,115,99,32,98,97,99,107,32,116,97,98,32,115,112,97,99,101,32,109,105,110,117,115,32,101,113,117,97,108,32,108,101,102,116,32,114,105,103,104,116,32,117,112,32,100,111,119,110,32,102,49,32,102,50,32,102,51,32,102,52,32,102,53,32,102,54,32,102,55,32,102,56,32,102,57],[(32:UInt8)]))∧((((0:Int)≤(iSub .i64 x 1))∧((iSub .i64 x 1)<(((List.length (Bo ([(97:UInt8),32,98,32,99,32,100,32,101,32,102,32,103,32,104,32,105,32,106,32,107,32,108,32,109,32,110,32,111,32,112,32,113,32,114,32,115,32,116,32,117,32,118,32,119,32,120,32,121,32,122,32,49,32,50,32,51,32,52,32,53,32,54,32,55,32,56,32,57,32,48,32,101,110,116,101,114,32,101,115,99,32,98,97,99,107,32,116,97,98,32,115,112,97,99,101,32,109,105,110,117,115,32,101,113,117,97,108,32,108,101,102,116,32,114,105,103,104,116,32,117,112,32,100,111,119,110,32,102,49,32,102,50,32,102,51,32,102,52,32,102,53,32,102,54,32,102,55,32,102,56,32,102,57],[(32:UInt8)]))):Int))))∧((iNat (iSub .i64 x 1))<(List.length (Bo ([(97:UInt8),32,98,32,99,32,100,32,101,32,102,32,103,32,104,32,105,32,106,32,107,32,108,32,109,32,110,32,111,32,112,32,113,32,114,32,115,32,116,32,117,32,118,32,119,32,120,32,121,32,122,32,49,32,50,32,51,32,52,32,53,32,54,32,55,32,56,32,57,32,48,32,101,110,116,101,114,32,101,115,99,32,98,97,99,107,32,116,97,98,32,115,112,97,99,101,32,109,105,110,117,115,32,101,113,117,97,108,32,108,101,102,116,32,114,105,103,104,116,32,117,112,32,100,111,119,110,32,102,49,32,102,50,32,102,51,32,102,52,32,102,53,32,102,54,32,102,55,32,102,56,32,102,57],[(32:UInt8)])))))))):=(EE.o x).trans (by kernel_rfl)
def ND(x0:((List UInt8)×Int)):Bool:=(iLt x0.2 (lLen [[(67:UInt8)],[(83:UInt8)],[(65:UInt8)],[(71:UInt8)]]))
def Qt(x:Int)(x0:((List UInt8)×Int)):((List UInt8)×Int):=((bSel (iEq (Ox (x,x0.2)) 1) (sAdd x0.1 (lGet [[(67:UInt8)],[(83:UInt8)],[(65:UInt8)],[(71:UInt8)]] (iNat x0.2) [])) x0.1),(iAdd .i64 x0.2 1))
def Qv(x:Int)(x0:((List UInt8)×Int)):Prop:=(((iLt x0.2 (lLen [[(67:UInt8)],[(83:UInt8)],[(65:UInt8)],[(71:UInt8)]]))=true→((((0:Int)≤x0.2)∧(x0.2<(((List.length [[(67:UInt8)],[(83:UInt8)],[(65:UInt8)],[(71:UInt8)]]):Int))))∧(((iNat x0.2)<(List.length [[(67:UInt8)],[(83:UInt8)],[(65:UInt8)],[(71:UInt8)]]))∧((UR (x,x0.2))∧(((iEq (Ox (x,x0.2)) 1)=true→(((List.length x0.1)+(List.length (lGet [[(67:UInt8)],[(83:UInt8)],[(65:UInt8)],[(71:UInt8)]] (iNat x0.2) [])))≤9223372036854775807))∧((iEq (Ox (x,x0.2)) 1)=false→True))))))∧((iLt x0.2 (lLen [[(67:UInt8)],[(83:UInt8)],[(65:UInt8)],[(71:UInt8)]]))=false→True))
theorem ky (x):Fu x=(bSel (bOr (iLt x 1) (iGt x 15)) [] (Am ND (Qt x) ([],0)).1):=(Ez.v x).trans (by kernel_rfl)
theorem ki (x):Jq x=(((bOr (iLt x 1) (iGt x 15))=true→True)∧((bOr (iLt x 1) (iGt x 15))=false→(LoopOk ND (Qt x) (Qv x) ([],0)))):=(Ez.o x).trans (by kernel_rfl)
theorem YN (x):KG x=(Me x):=(GG.v x).trans (by kernel_rfl)
theorem YQ (x):L5 x=(L7 x):=(GG.o x).trans (by kernel_rfl)
attribute [irreducible] Al Iu Mb QW BE Jt B3 Jp Hq KB Fu Jq KG L5
end
section
set_option maxRecDepth 8000
def kR:DCode:=(.seq [0] (.region [oi 0 2 0]) (.seq [] (.seq [3,0] (.region [oi 0 3 1]) (.block 0 (.loop [0,3] 1 (.seq [3,0] (.seq [5,3,0] (.region [om 0 4 3,oa 1 5 (.bin .leq (.t 4) (.c (.int .i64 15)))]) (.cond (.t 5) .skip (.exit 0))) (.seq [3,0] (.block 1 (.seq [11,3,0] (.region [om 0 8 3,oF 1 9 Ey [(.t 8)],om 2 10 0,oa 3 11 (.bin .eql (.t 9) (.t 10))]) (.cond (.t 11) (.seq [2] (.region [om 0 12 3,om 1 2 12]) .ret) .skip))) (.region [om 0 6 3,oa 1 7 (.bin .add (.t 6) (.c (.int .i64 1))),om 2 3 7])))))) (.seq [2] (.region [oi 0 2 0]) .ret)))
def Fx:Fn:=⟨⟨1,13,0,true,[.tmp 2],kR⟩,[.one .frz (.str)],.one (.one .own (.int .i64))⟩
theorem T6:Fx.A:=Be ⟨QF,trivial⟩
def DQ:List UInt8→Int:=Fx.V
def Kv:List UInt8→Prop:=Fx.O
theorem Uc:Fx.B:=Bj ⟨QG,trivial⟩ (by kernel_rfl) (fun x=>by kernel_rfl)
def mw:DCode:=(.seq [0] (.region [oi 0 2 0]) (.seq [] (.seq [3,0] (.region [oi 0 3 1]) (.block 0 (.loop [0,3] 1 (.seq [3,0] (.seq [5,3,0] (.region [om 0 4 3,oa 1 5 (.bin .leq (.t 4) (.c (.int .i64 56)))]) (.cond (.t 5) .skip (.exit 0))) (.seq [3,0] (.block 1 (.seq [11,3,0] (.region [om 0 8 3,oF 1 9 DR [(.t 8)],om 2 10 0,oa 3 11 (.bin .eql (.t 9) (.t 10))]) (.cond (.t 11) (.seq [2] (.region [om 0 12 3,om 1 2 12]) .ret) .skip))) (.region [om 0 6 3,oa 1 7 (.bin .add (.t 6) (.c (.int .i64 1))),om 2 3 7])))))) (.seq [2] (.region [oi 0 2 0]) .ret)))
def EH:Fn:=⟨⟨1,13,0,true,[.tmp 2],mw⟩,[.one .frz (.str)],.one (.one .own (.int .i64))⟩
theorem Q1:EH.A:=Be ⟨NV,trivial⟩
def Cv:List UInt8→Int:=EH.V
def Jv:List UInt8→Prop:=EH.O
theorem Q5:EH.B:=Bj ⟨N1,trivial⟩ (by kernel_rfl) (fun x=>by kernel_rfl)
def iS:DCode:=(.seq [1,0] (.region [oa 0 4 (.mv (.c (.str []))),oa 1 5 (.mv (.c (.str []))),oa 2 6 (.mv (.c (.bool false)))]) (.seq [0] (.seq [7,1,0] (.region [om 0 8 0,om 1 9 1,oc 2 10 Nz Ny Yb [(.t 8),(.t 9)],om 3 7 10]) (.seq [12,7,1,0] (.region [om 0 11 7,oa 1 12 (.bin .geq (.t 11) (.c (.int .i64 0)))]) (.cond (.t 12) (.seq [6,5,4] (.region [om 0 13 0,om 1 14 7,xA 2 15 (.substr (.t 13) none (some (.t 14))) (rg 2),om 3 16 0,om 4 17 7,om 5 18 1,xA 6 19 (.lenT (.t 18)) [5],xA 7 20 (.bin .add (.t 17) (.t 19)) [4,5,6],xA 8 21 (.substr (.t 16) (some (.t 20)) none) [3,4,5,6,7],xA 9 4 (.mv (.t 15)) [0,1,2],xA 10 5 (.mv (.t 21)) (rg 10),xA 11 6 (.mv (.c (.bool true))) (rg 11)]) .ret) .skip))) (.seq [6,5,4] (.region [om 0 22 0,om 1 4 22,oa 2 5 (.mv (.c (.str []))),oa 3 6 (.mv (.c (.bool false)))]) .ret)))
def Ie:Fn:=⟨⟨2,23,0,true,[.tmp 4,.tmp 5,.tmp 6],iS⟩,[.one .frz (.str),.one .frz (.str)],.tup [.one .own (.str),.one .own (.str),.one .own (.bool)]⟩
theorem iT:Ie.A:=Be ⟨iP,trivial⟩
def TS:List UInt8×List UInt8→List UInt8×List UInt8×Bool:=Ie.V
def TR:List UInt8×List UInt8→Prop:=Ie.O
theorem iU:Ie.B:=Bj ⟨iQ,trivial⟩ (by kernel_rfl) (fun x=>by kernel_rfl)
def mJ:DCode:=(.seq [1,0] (.region [oa 0 4 (.mv (.c (.str []))),oa 1 5 (.mv (.c (.str []))),oa 2 6 (.mv (.c (.bool false)))]) (.seq [6,5,4] (.region [om 0 7 0,om 1 8 1,oF 2 9 Ie [(.t 7),(.t 8)],oa 3 10 (.extract (.t 9) 0),oa 4 11 (.extract (.t 9) 1),oa 5 12 (.extract (.t 9) 2),om 6 4 10,om 7 5 11,om 8 6 12]) .ret))
def GL:Fn:=⟨⟨2,13,0,true,[.tmp 4,.tmp 5,.tmp 6],mJ⟩,[.one .frz (.str),.one .frz (.str)],.tup [.one .own (.str),.one .own (.str),.one .own (.bool)]⟩
theorem Zi:GL.A:=Be ⟨iT,trivial⟩
def BV:List UInt8×List UInt8→List UInt8×List UInt8×Bool:=GL.V
def KI:List UInt8×List UInt8→Prop:=GL.O
theorem Zp:GL.B:=Bj ⟨iU,trivial⟩ (by kernel_rfl) (fun x=>by kernel_rfl)
def kF:DCode:=(.seq [0] (.region [oi 0 2 0]) (.seq [] (.seq [3,0] (.region [oi 0 3 1]) (.block 0 (.loop [0,3] 1 (.seq [3,0] (.seq [5,3,0] (.region [om 0 4 3,oa 1 5 (.bin .leq (.t 4) (.c (.int .i64 15)))]) (.cond (.t 5) .skip (.exit 0))) (.seq [3,0] (.block 1 (.seq [11,3,0] (.region [om 0 8 3,oF 1 9 Ez [(.t 8)],om 2 10 0,oa 3 11 (.bin .eql (.t 9) (.t 10))]) (.cond (.t 11) (.seq [2] (.region [om 0 12 3,om 1 2 12]) .ret) .skip))) (.region [om 0 6 3,oa 1 7 (.bin .add (.t 6) (.c (.int .i64 1))),om 2 3 7])))))) (.seq [2] (.region [oi 0 2 0]) .ret)))
def Fv:Fn:=⟨⟨1,13,0,true,[.tmp 2],kF⟩,[.one .frz (.str)],.one (.one .own (.int .i64))⟩
theorem T9:Fv.A:=Be ⟨QD,trivial⟩
def Js:List UInt8→Int:=Fv.V
def Kw:List UInt8→Prop:=Fv.O
theorem Ub:Fv.B:=Bj ⟨QB,trivial⟩ (by kernel_rfl) (fun x=>by kernel_rfl)
def kD:DCode:=(.seq [1,0] (.region [oa 0 4 (.mv (.c .nils))]) (.seq [5,1,0] (.region [oa 0 5 (.mv (.c .nils))]) (.seq [6,5,1,0] (.region [oi 0 6 0]) (.seq [6,5,0] (.seq [7,6,5,1,0] (.region [oi 0 7 0]) (.block 0 (.loop [0,1,5,6,7] 1 (.seq [7,6,5,1,0] (.seq [11,7,6,5,1,0] (.region [om 0 8 7,om 1 9 0,oa 2 10 (.lenT (.t 9)),oa 3 11 (.bin .lss (.t 8) (.t 10))]) (.cond (.t 11) .skip (.exit 0))) (.seq [7,6,5,1,0] (.block 1 (.seq [18,7,6,5,1,0] (.region [om 0 14 0,om 1 15 7,oa 2 16 (.index (.t 14) (.t 15)),om 3 17 1,oa 4 18 (.bin .eql (.t 16) (.t 17))]) (.cond (.t 18) (.seq [7,5,1,0] (.region [om 0 19 5,om 1 20 0,om 2 21 6,om 3 22 7,oa 4 23 (.substr (.t 20) (some (.t 21)) (some (.t 22))),⟨5,some 24,.a false (.litSlice 1 1 [(.str [])] [(0,1,(.t 23))]) (some (.one (.str))),none,[]⟩,oa 6 25 (.app 1 (.t 19) (.t 24)),om 7 5 25]) (.region [om 0 26 7,oa 1 27 (.bin .add (.t 26) (.c (.int .i64 1))),om 2 6 27])) .skip))) (.region [om 0 12 7,oa 1 13 (.bin .add (.t 12) (.c (.int .i64 1))),om 2 7 13])))))) (.seq [4] (.region [om 0 28 5,om 1 29 0,om 2 30 6,oa 3 31 (.substr (.t 29) (some (.t 30)) none),⟨4,some 32,.a false (.litSlice 1 1 [(.str [])] [(0,1,(.t 31))]) (some (.one (.str))),none,[]⟩,oa 5 33 (.app 1 (.t 28) (.t 32)),om 6 4 33]) .ret)))))
def Iw:Fn:=⟨⟨2,34,0,false,[.tmp 4],kD⟩,[.one .frz (.str),.one .frz (.int .u8)],.one (.one .own (.sl (.one (.str))))⟩
theorem kS:Iw.A:=Be trivial
def Dp:List UInt8×Int→List (List UInt8):=Iw.V
def NT:List UInt8×Int→Prop:=Iw.O
theorem kK:Iw.B:=Bj trivial (by kernel_rfl) (fun x=>by kernel_rfl)
def mD:DCode:=(.seq [0] (.region [oi 0 2 0]) (.seq [] (.seq [7,6,5,0] (.region [oc 0 5 ID KF QU [(.c (.str [97,32,98,32,99,32,100,32,101,32,102,32,103,32,104,32,105,32,106,32,107,32,108,32,109,32,110,32,111,32,112,32,113,32,114,32,115,32,116,32,117,32,118,32,119,32,120,32,121,32,122,32,49,32,50,32,51,32,52,32,53,32,54,32,55,32,56,32,57,32,48,32,101,110,116,101,114,32,101,115,99,32,98,97,99,107,32,116,97,98,32,115,112,97,99,101,32,109,105,110,117,115,32,101,113,117,97,108,32,108,101,102,116,32,114,105,103,104,116,32,117,112,32,100,111,119,110,32,102,49,32,102,50,32,102,51,32,102,52,32,102,53,32,102,54,32,102,55,32,102,56,32,102,57])),(.c (.str [32]))],oa 1 6 (.len (.t 5)),oi 2 7 0]) (.block 0 (.loop [0,5,6,7] 1 (.seq [8,7,6,5,0] (.region [oa 0 8 (.bin .lss (.t 7) (.t 6))]) (.seq [7,6,5,0] (.cond (.t 8) .skip (.exit 0)) (.seq [7,6,5,0] (.block 1 (.seq [7,6,5,4,3,0] (.region [om 0 9 7,oa 1 10 (.indexA 1 (.t 5) (.t 7)),oa 2 11 (.loadH none (.t 10)),om 3 3 9,om 4 4 11]) (.seq [14,7,6,5,3,0] (.region [om 0 12 4,om 1 13 0,oa 2 14 (.bin .eql (.t 12) (.t 13))]) (.cond (.t 14) (.seq [2] (.region [om 0 15 3,oa 1 16 (.bin .add (.t 15) (.c (.int .i64 1))),om 2 2 16]) .ret) .skip)))) (.region [oa 0 17 (.bin .add (.t 7) (.c (.int .i64 1))),om 1 7 17]))))))) (.seq [2] (.region [oi 0 2 0]) .ret)))
def EI:Fn:=⟨⟨1,18,0,true,[.tmp 2],mD⟩,[.one .frz (.str)],.one (.one .own (.int .i64))⟩
theorem Q4:EI.A:=Be ⟨Uj,trivial⟩
def GM:List UInt8→Int:=EI.V
def Ju:List UInt8→Prop:=EI.O
theorem QZ:EI.B:=Bj ⟨Uf,trivial⟩ (by kernel_rfl) (fun x=>by kernel_rfl)
end
section
set_option maxRecDepth 100000
def Gv(x:List UInt8)(x0:Int):Bool:=(bAnd (iLe x0 15) (bNot (sEq (B3 x0) x)))
def Ii(x0:Int):Int:=(iAdd .i64 x0 1)
def jB(x0:Int):Prop:=(((iLe x0 15)=true→(Jp x0))∧((iLe x0 15)=false→True))
theorem YF (x):DQ x=(bSel (iLe (Am (Gv x) Ii 1) 15) (Am (Gv x) Ii 1) 0):=(Fx.v x).trans (by kernel_rfl)
theorem kV (x):Kv x=(LoopOk (Gv x) Ii jB 1):=(Fx.o x).trans (by kernel_rfl)
def Iz(x:List UInt8)(x0:Int):Bool:=(bAnd (iLe x0 56) (bNot (sEq (BE x0) x)))
def Kz(x0:Int):Int:=(iAdd .i64 x0 1)
def Kx(x0:Int):Prop:=(((iLe x0 56)=true→(Jt x0))∧((iLe x0 56)=false→True))
theorem Zh (x):Cv x=(bSel (iLe (Am (Iz x) Kz 1) 56) (Am (Iz x) Kz 1) 0):=(EH.v x).trans (by kernel_rfl)
theorem mE (x):Jv x=(LoopOk (Iz x) Kz Kx 1):=(EH.o x).trans (by kernel_rfl)
theorem Yc (x):TS x=(bSel (iGe (DJ x) 0) ((lSub x.1 0 (iNat (DJ x))),(lSub x.1 (iNat (iAdd .i64 (DJ x) (lLen x.2))) (lN x.1)),true) (x.1,[],false)):=(Ie.v x).trans (by kernel_rfl)
theorem Yd (x):TR x=((Jm x)∧(((iGe (DJ x) 0)=true→((((0:Int)≤(DJ x))∧((0≤(iNat (DJ x)))∧((iNat (DJ x))≤(List.length x.1))))∧(((0:Int)≤(iAdd .i64 (DJ x) (lLen x.2)))∧(((iNat (iAdd .i64 (DJ x) (lLen x.2)))≤(lN x.1))∧((lN x.1)≤(List.length x.1))))))∧((iGe (DJ x) 0)=false→True))):=(Ie.o x).trans (by kernel_rfl)
theorem Zl (x):BV x=(TS x):=(GL.v x).trans (by kernel_rfl)
theorem Zx (x):KI x=(TR x):=(GL.o x).trans (by kernel_rfl)
def NI(x:List UInt8)(x0:Int):Bool:=(bAnd (iLe x0 15) (bNot (sEq (Fu x0) x)))
def Qx(x0:Int):Int:=(iAdd .i64 x0 1)
def jM(x0:Int):Prop:=(((iLe x0 15)=true→(Jq x0))∧((iLe x0 15)=false→True))
theorem kJ (x):Js x=(bSel (iLe (Am (NI x) Qx 1) 15) (Am (NI x) Qx 1) 0):=(Fv.v x).trans (by kernel_rfl)
theorem kG (x):Kw x=(LoopOk (NI x) Qx jM 1):=(Fv.o x).trans (by kernel_rfl)
def Hp(x:List UInt8×Int)(x0:((List (List UInt8))×(Int×Int))):Bool:=(iLt x0.2.2 (lLen x.1))
def Ig(x:List UInt8×Int)(x0:((List (List UInt8))×(Int×Int))):((List (List UInt8))×(Int×Int)):=((bSel (iEq (sGet x.1 x0.2.2) x.2) (lApp x0.1 [(lSub x.1 (iNat x0.2.1) (iNat x0.2.2))]) x0.1),(bSel (iEq (sGet x.1 x0.2.2) x.2) (iAdd .i64 x0.2.2 1) x0.2.1),(iAdd .i64 x0.2.2 1))
def TZ(x:List UInt8×Int)(x0:((List (List UInt8))×(Int×Int))):Prop:=(((iLt x0.2.2 (lLen x.1))=true→((((0:Int)≤x0.2.2)∧(x0.2.2<(((List.length x.1):Int))))∧(((iEq (sGet x.1 x0.2.2) x.2)=true→(((((0:Int)≤x0.2.1)∧((0:Int)≤x0.2.2))∧(((iNat x0.2.1)≤(iNat x0.2.2))∧((iNat x0.2.2)≤(List.length x.1))))∧(AW (((List.length x0.1)+(List.length [(lSub x.1 (iNat x0.2.1) (iNat x0.2.2))]))*1))))∧((iEq (sGet x.1 x0.2.2) x.2)=false→True))))∧((iLt x0.2.2 (lLen x.1))=false→True))
theorem kM (x):Dp x=(lApp (Am (Hp x) (Ig x) ([],0,0)).1 [(lSub x.1 (iNat (Am (Hp x) (Ig x) ([],0,0)).2.1) (lN x.1))]):=(Iw.v x).trans (by kernel_rfl)
theorem kO (x):NT x=((LoopOk (Hp x) (Ig x) (TZ x) ([],0,0))∧((((0:Int)≤(Am (Hp x) (Ig x) ([],0,0)).2.1)∧(((iNat (Am (Hp x) (Ig x) ([],0,0)).2.1)≤(lN x.1))∧((lN x.1)≤(List.length x.1))))∧(AW (((List.length (Am (Hp x) (Ig x) ([],0,0)).1)+(List.length [(lSub x.1 (iNat (Am (Hp x) (Ig x) ([],0,0)).2.1) (lN x.1))]))*1)))):=(Iw.o x).trans (by kernel_rfl)
def L0(x:List UInt8)(x0:Int):Bool:=(bAnd (iLt x0 (lLen (Bo ([(97:UInt8),32,98,32,99,32,100,32,101,32,102,32,103,32,104,32,105,32,106,32,107,32,108,32,109,32,110,32,111,32,112,32,113,32,114,32,115,32,116,32,117,32,118,32,119,32,120,32,121,32,122,32,49,32,50,32,51,32,52,32,53,32,54,32,55,32,56,32,57,32,48,32,101,110,116,101,114,32,101,115,99,32,98,97,99,107,32,116,97,98,32,115,112,97,99,101,32,109,105,110,117,115,32,101,113,117,97,108,32,108,101,102,116,32,114,105,103,104,116,32,117,112,32,100,111,119,110,32,102,49,32,102,50,32,102,51,32,102,52,32,102,53,32,102,54,32,102,55,32,102,56,32,102,57],[(32:UInt8)])))) (bNot (sEq (lGet (Bo ([(97:UInt8),32,98,32,99,32,100,32,101,32,102,32,103,32,104,32,105,32,106,32,107,32,108,32,109,32,110,32,111,32,112,32,113,32,114,32,115,32,116,32,117,32,118,32,119,32,120,32,121,32,122,32,49,32,50,32,51,32,52,32,53,32,54,32,55,32,56,32,57,32,48,32,101,110,116,101,114,32,101,115,99,32,98,97,99,107,32,116,97,98,32,115,112,97,99,101,32,109,105,110,117,115,32,101,113,117,97,108,32,108,101,102,116,32,114,105,103,104,116,32,117,112,32,100,111,119,110,32,102,49,32,102,50,32,102,51,32,102,52,32,102,53,32,102,54,32,102,55,32,102,56,32,102,57],[(32:UInt8)])) (iNat x0) []) x)))
def NW(x0:Int):Int:=(iAdd .i64 x0 1)
def QO(x0:Int):Prop:=(((iLt x0 (lLen (Bo ([(97:UInt8),32,98,32,99,32,100,32,101,32,102,32,103,32,104,32,105,32,106,32,107,32,108,32,109,32,110,32,111,32,112,32,113,32,114,32,115,32,116,32,117,32,118,32,119,32,120,32,121,32,122,32,49,32,50,32,51,32,52,32,53,32,54,32,55,32,56,32,57,32,48,32,101,110,116,101,114,32,101,115,99,32,98,97,99,107,32,116,97,98,32,115,112,97,99,101,32,109,105,110,117,115,32,101,113,117,97,108,32,108,101,102,116,32,114,105,103,104,116,32,117,112,32,100,111,119,110,32,102,49,32,102,50,32,102,51,32,102,52,32,102,53,32,102,54,32,102,55,32,102,56,32,102,57],[(32:UInt8)]))))=true→((((0:Int)≤x0)∧(x0<(((List.length (Bo ([(97:UInt8),32,98,32,99,32,100,32,101,32,102,32,103,32,104,32,105,32,106,32,107,32,108,32,109,32,110,32,111,32,112,32,113,32,114,32,115,32,116,32,117,32,118,32,119,32,120,32,121,32,122,32,49,32,50,32,51,32,52,32,53,32,54,32,55,32,56,32,57,32,48,32,101,110,116,101,114,32,101,115,99,32,98,97,99,107,32,116,97,98,32,115,112,97,99,101,32,109,105,110,117,115,32,101,113,117,97,108,32,108,101,102,116,32,114,105,103,104,116,32,117,112,32,100,111,119,110,32,102,49,32,102,50,32,102,51,32,102,52,32,102,53,32,102,54,32,102,55,32,102,56,32,102,57],[(32:UInt8)]))):Int))))∧((iNat x0)<(List.length (Bo ([(97:UInt8),32,98,32,99,32,100,32,101,32,102,32,103,32,104,32,105,32,106,32,107,32,108,32,109,32,110,32,111,32,112,32,113,32,114,32,115,32,116,32,117,32,118,32,119,32,120,32,121,32,122,32,49,32,50,32,51,32,52,32,53,32,54,32,55,32,56,32,57,32,48,32,101,110,116,101,114,32,101,115,99,32,98,97,99,107,32,116,97,98,32,115,112,97,99,101,32,109,105,110,117,115,32,101,113,117,97,108,32,108,101,102,116,32,114,105,103,104,116,32,117,112,32,100,111,119,110,32,102,49,32,102,50,32,102,51,32,102,52,32,102,53,32,102,54,32,102,55,32,102,56,32,102,57],[(32:UInt8)]))))))∧((iLt x0 (lLen (Bo ([(97:UInt8),32,98,32,99,32,100,32,101,32,102,32,103,32,104,32,105,32,106,32,107,32,108,32,109,32,110,32,111,32,112,32,113,32,114,32,115,32,116,32,117,32,118,32,119,32,120,32,121,32,122,32,49,32,50,32,51,32,52,32,53,32,54,32,55,32,56,32,57,32,48,32,101,110,116,101,114,32,101,115,99,32,98,97,99,107,32,116,97,98,32,115,112,97,99,101,32,109,105,110,117,115,32,101,113,117,97,108,32,108,101,102,116,32,114,105,103,104,116,32,117,112,32,100,111,119,110,32,102,49,32,102,50,32,102,51,32,102,52,32,102,53,32,102,54,32,102,55,32,102,56,32,102,57],[(32:UInt8)]))))=false→True))
theorem mG (x):GM x=(bSel (iLt (Am (L0 x) NW 0) (lLen (Bo ([(97:UInt8),32,98,32,99,32,100,32,101,32,102,32,103,32,104,32,105,32,106,32,107,32,108,32,109,32,110,32,111,32,112,32,113,32,114,32,115,32,116,32,117,32,118,32,119,32,120,32,121,32,122,32,49,32,50,32,51,32,52,32,53,32,54,32,55,32,56,32,57,32,48,32,101,110,116,101,114,32,101,115,99,32,98,97,99,107,32,116,97,98,32,115,112,97,99,101,32,109,105,110,117,115,32,101,113,117,97,108,32,108,101,102,116,32,114,105,103,104,116,32,117,112,32,100,111,119,110,32,102,49,32,102,50,32,102,51,32,102,52,32,102,53,32,102,54,32,102,55,32,102,56,32,102,57],[(32:UInt8)])))) (iAdd .i64 (Am (L0 x) NW 0) 1) 0):=(EI.v x).trans (by kernel_rfl)
theorem mP (x):Ju x=((Ix ([(97:UInt8),32,98,32,99,32,100,32,101,32,102,32,103,32,104,32,105,32,106,32,107,32,108,32,109,32,110,32,111,32,112,32,113,32,114,32,115,32,116,32,117,32,118,32,119,32,120,32,121,32,122,32,49,32,50,32,51,32,52,32,53,32,54,32,55,32,56,32,57,32,48,32,101,110,116,101,114,32,101,115,99,32,98,97,99,107,32,116,97,98,32,115,112,97,99,101,32,109,105,110,117,115,32,101,113,117,97,108,32,108,101,102,116,32,114,105,103,104,116,32,117,112,32,100,111,119,110,32,102,49,32,102,50,32,102,51,32,102,52,32,102,53,32,102,54,32,102,55,32,102,56,32,102,57],[(32:UInt8)]))∧(LoopOk (L0 x) NW QO 0)):=(EI.o x).trans (by kernel_rfl)
attribute [irreducible] DQ Kv Cv Jv TS TR BV KI Js Kw Dp NT GM Ju
end
section
set_option maxRecDepth 8000
def kI:DCode:=(.seq [0] (.region [oa 0 2 (.mv (.c (.str [])))]) (.seq [0] (.seq [7,0] (.region [om 0 6 0,oa 1 7 (.bin .eql (.t 6) (.c (.int .i64 0)))]) (.cond (.t 7) (.seq [2] (.region [oa 0 2 (.mv (.c (.str [48])))]) .ret) .skip)) (.seq [3,0] (.region [oa 0 3 (.mv (.c (.str [])))]) (.seq [3,0] (.seq [4,3,0] (.region [om 0 8 0,om 1 4 8]) (.block 0 (.loop [0,3,4] 1 (.seq [4,3,0] (.seq [10,4,3,0] (.region [om 0 9 4,oa 1 10 (.bin .neq (.t 9) (.c (.int .i64 0)))]) (.cond (.t 10) .skip (.exit 0))) (.seq [4,3,0] (.block 1 (.seq [5,4,3,0] (.region [om 0 13 4,oa 1 14 (.bin .rem (.t 13) (.c (.int .i64 10))),om 2 5 14]) (.seq [5,4,3,0] (.seq [16,5,4,3,0] (.region [om 0 15 5,oa 1 16 (.bin .lss (.t 15) (.c (.int .i64 0)))]) (.cond (.t 16) (.region [om 0 17 5,oa 1 18 (.un .neg (.t 17)),om 2 5 18]) .skip)) (.region [om 0 19 5,oa 1 20 (.bin .add (.c (.int .i64 48)) (.t 19)),oa 2 21 (.conv .u8 (.t 20)),⟨3,some 22,.a false (.litSlice 1 1 [(.int .u8 0)] [(0,1,(.t 21))]) (some (.one (.int .u8))),none,[]⟩,oa 4 23 (.bstr (.t 22)),om 5 24 3,oa 6 25 (.bin .add (.t 23) (.t 24)),om 7 3 25])))) (.region [om 0 11 4,oa 1 12 (.bin .quo (.t 11) (.c (.int .i64 10))),om 2 4 12])))))) (.seq [3] (.seq [27,3] (.region [om 0 26 0,oa 1 27 (.bin .lss (.t 26) (.c (.int .i64 0)))]) (.cond (.t 27) (.seq [2] (.region [om 0 28 3,oa 1 29 (.bin .add (.c (.str [45])) (.t 28)),om 2 2 29]) .ret) .skip)) (.seq [2] (.region [om 0 30 3,om 1 2 30]) .ret))))))
def Dn:Fn:=⟨⟨1,31,0,true,[.tmp 2],kI⟩,[.one .frz (.int .i64)],.one (.one .own (.str))⟩
theorem LX:Dn.A:=Be trivial
def De:Int→List UInt8:=Dn.V
def GB:Int→Prop:=Dn.O
theorem LY:Dn.B:=Bj trivial (by kernel_rfl) (fun x=>by kernel_rfl)
def jr:DCode:=(.seq [1] (.region [oa 0 1 (.boxB 0 4 (.t 0)),oa 1 2 (.mv (.c (.str [])))]) (.seq [1] (.seq [5,1] (.region [oa 0 3 (.loadB 0 (some 4) (.t 1)),oF 1 4 GF [(.t 3)],oa 2 5 (.un .not (.t 4))]) (.cond (.t 5) (.seq [2] (.region [oa 0 2 (.mv (.c (.str [])))]) .ret) .skip)) (.seq [1] (.seq [7,1] (.region [oa 0 6 (.fieldA 0 (.t 1)),oa 1 7 (.loadB 0 none (.t 6))]) (.block 0 (.seq [8,7,1] (.region [oa 0 9 (.bin .eql (.t 7) (.c (.int .i64 0))),om 1 8 9]) (.cond (.t 8) (.seq [2] (.region [oa 0 2 (.mv (.c (.str [110,111,110,101])))]) .ret) (.seq [10,7,1] (.region [oa 0 11 (.bin .eql (.t 7) (.c (.int .i64 1))),om 1 10 11]) (.cond (.t 10) (.seq [2] (.region [oa 0 2 (.mv (.c (.str [112,97,115,115])))]) .ret) (.seq [12,7,1] (.region [oa 0 13 (.bin .eql (.t 7) (.c (.int .i64 3))),om 1 12 13]) (.cond (.t 12) (.seq [2] (.region [oa 0 14 (.fieldA 3 (.t 1)),oa 1 15 (.loadB 0 none (.t 14)),oF 2 16 Dn [(.t 15)],oa 3 17 (.bin .add (.c (.str [109,111,58])) (.t 16)),om 4 2 17]) .ret) (.seq [18,7,1] (.region [oa 0 19 (.bin .eql (.t 7) (.c (.int .i64 4))),om 1 18 19]) (.cond (.t 18) (.seq [2] (.region [oa 0 20 (.fieldA 3 (.t 1)),oa 1 21 (.loadB 0 none (.t 20)),oF 2 22 Dn [(.t 21)],oa 3 23 (.bin .add (.c (.str [116,103,58])) (.t 22)),om 4 2 23]) .ret) (.seq [24,7,1] (.region [oa 0 25 (.bin .eql (.t 7) (.c (.int .i64 5))),om 1 24 25]) (.cond (.t 24) (.seq [2] (.region [oa 0 26 (.fieldA 3 (.t 1)),oa 1 27 (.loadB 0 none (.t 26)),oF 2 28 Dn [(.t 27)],oa 3 29 (.bin .add (.c (.str [116,111,58])) (.t 28)),om 4 2 29]) .ret) (.seq [30,7,1] (.region [oa 0 31 (.bin .eql (.t 7) (.c (.int .i64 6))),om 1 30 31]) (.cond (.t 30) (.seq [2] (.region [oa 0 32 (.fieldA 2 (.t 1)),xA 1 33 (.loadB 0 none (.t 32)) (rg 1),oa 4 36 (.fieldA 1 (.t 1)),xA 5 37 (.loadB 0 none (.t 36)) [4],xF 2 34 Ey [(.t 33)] (rg 2),xA 3 35 (.bin .add (.t 34) (.c (.str [47]))) (rg 3),xF 6 38 DR [(.t 37)] [0,1,2,4,5],xA 7 39 (.bin .add (.t 35) (.t 38)) (rg 7),xA 8 2 (.mv (.t 39)) (rg 8)]) .ret) (.seq [40,7,1] (.region [oa 0 41 (.bin .eql (.t 7) (.c (.int .i64 7))),om 1 40 41]) (.cond (.t 40) (.seq [2] (.region [oa 0 42 (.fieldA 3 (.t 1)),xA 1 43 (.loadB 0 none (.t 42)) (rg 1),oa 4 46 (.fieldA 1 (.t 1)),xA 5 47 (.loadB 0 none (.t 46)) [4],xF 2 44 Dn [(.t 43)] (rg 2),xA 3 45 (.bin .add (.t 44) (.c (.str [47]))) (rg 3),xF 6 48 DR [(.t 47)] [0,1,2,4,5],xA 7 49 (.bin .add (.t 45) (.t 48)) (rg 7),xA 8 2 (.mv (.t 49)) (rg 8)]) .ret) (.seq [50,7,1] (.region [oa 0 51 (.bin .eql (.t 7) (.c (.int .i64 8))),om 1 50 51]) (.cond (.t 50) (.seq [2] (.region [oa 0 52 (.fieldA 2 (.t 1)),oa 1 53 (.loadB 0 none (.t 52)),oF 2 54 Ey [(.t 53)],oa 3 55 (.bin .add (.c (.str [111,110,99,101,58])) (.t 54)),om 4 2 55]) .ret) (.seq [56,7,1] (.region [oa 0 57 (.bin .eql (.t 7) (.c (.int .i64 9))),om 1 56 57]) (.cond (.t 56) (.seq [2] (.region [oa 0 58 (.fieldA 3 (.t 1)),oa 1 59 (.loadB 0 none (.t 58)),oF 2 60 Dn [(.t 59)],oa 3 61 (.bin .add (.c (.str [109,97,99,114,111,58])) (.t 60)),om 4 2 61]) .ret) (.seq [62,1] (.region [oa 0 63 (.bin .eql (.t 7) (.c (.int .i64 10))),om 1 62 63]) (.cond (.t 62) (.seq [2] (.region [oa 0 2 (.mv (.c (.str [99,97,112,115])))]) .ret) .skip)))))))))))))))))))))) (.seq [1] (.seq [66,1] (.region [oa 0 64 (.fieldA 2 (.t 1)),oa 1 65 (.loadB 0 none (.t 64)),oa 2 66 (.bin .eql (.t 65) (.c (.int .i64 0)))]) (.cond (.t 66) (.seq [2] (.region [oa 0 67 (.fieldA 1 (.t 1)),oa 1 68 (.loadB 0 none (.t 67)),oF 2 69 DR [(.t 68)],om 3 2 69]) .ret) .skip)) (.seq [2] (.region [oa 0 70 (.fieldA 2 (.t 1)),xA 1 71 (.loadB 0 none (.t 70)) (rg 1),oa 4 74 (.fieldA 1 (.t 1)),xA 5 75 (.loadB 0 none (.t 74)) [4],xF 2 72 Ey [(.t 71)] (rg 2),xA 3 73 (.bin .add (.t 72) (.c (.str [45]))) (rg 3),xF 6 76 DR [(.t 75)] [0,1,2,4,5],xA 7 77 (.bin .add (.t 73) (.t 76)) (rg 7),xA 8 2 (.mv (.t 77)) (rg 8)]) .ret)))))
def Gy:Fn:=⟨⟨1,78,1,true,[.tmp 2],jr⟩,[.agg [(.frz,.int .i64),(.frz,.int .i64),(.frz,.int .i64),(.frz,.int .i64)]],.one (.one .own (.str))⟩
theorem jq:Gy.A:=Be ⟨YR,LX,LX,LX,QF,NV,LX,NV,QF,LX,NV,QF,NV,trivial⟩
def AG:Int×Int×Int×Int→List UInt8:=Gy.V
def LP:Int×Int×Int×Int→Prop:=Gy.O
theorem js:Gy.B:=Bj ⟨YT,LY,LY,LY,QG,N1,LY,N1,QG,LY,N1,QG,N1,trivial⟩ (by kernel_rfl) (fun x=>by kernel_rfl)
def kB:DCode:=(.seq [0] (.region [oa 0 2 (.mv (.c (.str [])))]) (.seq [2] (.region [om 0 3 0,oc 1 4 Oa Oc Zr [(.t 3)],om 2 2 4]) .ret))
def EA:Fn:=⟨⟨1,5,0,true,[.tmp 2],kB⟩,[.one .frz (.int .i64)],.one (.one .own (.str))⟩
theorem T8:EA.A:=Be ⟨mn,trivial⟩
def Fw:Int→List UInt8:=EA.V
def It:Int→Prop:=EA.O
theorem T5:EA.B:=Bj ⟨mc,trivial⟩ (by kernel_rfl) (fun x=>by kernel_rfl)
def mH:DCode:=(.seq [0] (.region [oa 0 2 (.mv (.c (.str [])))]) (.seq [] (.seq [3] (.region [om 0 3 0]) (.block 0 (.seq [4,3] (.region [oa 0 5 (.bin .eql (.t 3) (.c (.int .i64 3))),om 1 4 5]) (.cond (.t 4) (.seq [2] (.region [oa 0 2 (.mv (.c (.str [109,111,58])))]) .ret) (.seq [6,3] (.region [oa 0 7 (.bin .eql (.t 3) (.c (.int .i64 4))),om 1 6 7]) (.cond (.t 6) (.seq [2] (.region [oa 0 2 (.mv (.c (.str [116,103,58])))]) .ret) (.seq [8,3] (.region [oa 0 9 (.bin .eql (.t 3) (.c (.int .i64 5))),om 1 8 9]) (.cond (.t 8) (.seq [2] (.region [oa 0 2 (.mv (.c (.str [116,111,58])))]) .ret) (.seq [10] (.region [oa 0 11 (.bin .eql (.t 3) (.c (.int .i64 9))),om 1 10 11]) (.cond (.t 10) (.seq [2] (.region [oa 0 2 (.mv (.c (.str [109,97,99,114,111,58])))]) .ret) .skip)))))))))) (.seq [2] (.region [oa 0 2 (.mv (.c (.str [])))]) .ret)))
def GN:Fn:=⟨⟨1,12,0,true,[.tmp 2],mH⟩,[.one .frz (.int .i64)],.one (.one .own (.str))⟩
theorem Zm:GN.A:=Be trivial
def GO:Int→List UInt8:=GN.V
def N8:Int→Prop:=GN.O
theorem Zo:GN.B:=Bj trivial (by kernel_rfl) (fun x=>by kernel_rfl)
def jj:DCode:=(.seq [1] (.region [oa 0 1 (.boxB 0 4 (.t 0)),oa 1 2 (.mv (.c (.str [])))]) (.seq [1] (.seq [5,1] (.region [oa 0 3 (.loadB 0 (some 4) (.t 1)),oF 1 4 Fy [(.t 3)],oa 2 5 (.un .not (.t 4))]) (.cond (.t 5) (.seq [2] (.region [oa 0 2 (.mv (.c (.str [])))]) .ret) .skip)) (.seq [1] (.seq [7,1] (.region [oa 0 6 (.fieldA 0 (.t 1)),oa 1 7 (.loadB 0 none (.t 6))]) (.block 0 (.seq [8,7,1] (.region [oa 0 9 (.bin .eql (.t 7) (.c (.int .i64 0))),om 1 8 9]) (.cond (.t 8) (.seq [2] (.region [oa 0 2 (.mv (.c (.str [110,111,110,101])))]) .ret) (.seq [10,7,1] (.region [oa 0 11 (.bin .eql (.t 7) (.c (.int .i64 1))),om 1 10 11]) (.cond (.t 10) (.seq [2] (.region [oa 0 2 (.mv (.c (.str [112,97,115,115])))]) .ret) (.seq [12,7,1] (.region [oa 0 13 (.bin .eql (.t 7) (.c (.int .i64 10))),om 1 12 13]) (.cond (.t 12) (.seq [2] (.region [oa 0 2 (.mv (.c (.str [99,97,112,115])))]) .ret) (.seq [14,7,1] (.region [oa 0 15 (.bin .eql (.t 7) (.c (.int .i64 2))),om 1 14 15]) (.cond (.t 14) (.seq [1] (.seq [18,1] (.region [oa 0 16 (.fieldA 2 (.t 1)),oa 1 17 (.loadB 0 none (.t 16)),oa 2 18 (.bin .neq (.t 17) (.c (.int .i64 0)))]) (.cond (.t 18) (.seq [2] (.region [oa 0 19 (.fieldA 2 (.t 1)),xA 1 20 (.loadB 0 none (.t 19)) (rg 1),oa 4 23 (.fieldA 1 (.t 1)),xA 5 24 (.loadB 0 none (.t 23)) [4],xF 2 21 Ez [(.t 20)] (rg 2),xA 3 22 (.bin .add (.t 21) (.c (.str [45]))) (rg 3),xF 6 25 EE [(.t 24)] [0,1,2,4,5],xA 7 26 (.bin .add (.t 22) (.t 25)) (rg 7),xA 8 2 (.mv (.t 26)) (rg 8)]) .ret) .skip)) (.seq [2] (.region [oa 0 27 (.fieldA 1 (.t 1)),oa 1 28 (.loadB 0 none (.t 27)),oF 2 29 EE [(.t 28)],om 3 2 29]) .ret)) (.seq [30,7,1] (.region [oa 0 31 (.bin .eql (.t 7) (.c (.int .i64 6))),om 1 30 31]) (.cond (.t 30) (.seq [2] (.region [oa 0 32 (.fieldA 2 (.t 1)),xA 1 33 (.loadB 0 none (.t 32)) (rg 1),oa 4 36 (.fieldA 1 (.t 1)),xA 5 37 (.loadB 0 none (.t 36)) [4],xF 2 34 Ez [(.t 33)] (rg 2),xA 3 35 (.bin .add (.t 34) (.c (.str [47]))) (rg 3),xF 6 38 EE [(.t 37)] [0,1,2,4,5],xA 7 39 (.bin .add (.t 35) (.t 38)) (rg 7),xA 8 2 (.mv (.t 39)) (rg 8)]) .ret) (.seq [40,7,1] (.region [oa 0 41 (.bin .eql (.t 7) (.c (.int .i64 7))),om 1 40 41]) (.cond (.t 40) (.seq [2] (.region [oa 0 42 (.fieldA 3 (.t 1)),xA 1 43 (.loadB 0 none (.t 42)) (rg 1),oa 4 46 (.fieldA 1 (.t 1)),xA 5 47 (.loadB 0 none (.t 46)) [4],xF 2 44 EA [(.t 43)] (rg 2),xA 3 45 (.bin .add (.t 44) (.c (.str [47]))) (rg 3),xF 6 48 EE [(.t 47)] [0,1,2,4,5],xA 7 49 (.bin .add (.t 45) (.t 48)) (rg 7),xA 8 2 (.mv (.t 49)) (rg 8)]) .ret) (.seq [50,1] (.region [oa 0 51 (.bin .eql (.t 7) (.c (.int .i64 8))),om 1 50 51]) (.cond (.t 50) (.seq [2] (.region [oa 0 52 (.fieldA 2 (.t 1)),oa 1 53 (.loadB 0 none (.t 52)),oF 2 54 Ez [(.t 53)],oa 3 55 (.bin .add (.c (.str [111,110,99,101,58])) (.t 54)),om 4 2 55]) .ret) .skip)))))))))))))))) (.seq [2] (.region [oa 0 56 (.fieldA 0 (.t 1)),xA 1 57 (.loadB 0 none (.t 56)) (rg 1),oa 3 59 (.fieldA 3 (.t 1)),xA 4 60 (.loadB 0 none (.t 59)) [3],xF 2 58 GN [(.t 57)] (rg 2),xF 5 61 EA [(.t 60)] (rg 5),xA 6 62 (.bin .add (.t 58) (.t 61)) (rg 6),xA 7 2 (.mv (.t 62)) (rg 7)]) .ret))))
def Fq:Fn:=⟨⟨1,63,1,true,[.tmp 2],jj⟩,[.agg [(.frz,.int .i64),(.frz,.int .i64),(.frz,.int .i64),(.frz,.int .i64)]],.one (.one .own (.str))⟩
theorem Yi:Fq.A:=Be ⟨Uh,QD,QM,QM,QD,QM,T8,QM,QD,Zm,T8,trivial⟩
def Jo:Int×Int×Int×Int→List UInt8:=Fq.V
def NG:Int×Int×Int×Int→Prop:=Fq.O
theorem Yj:Fq.B:=Bj ⟨Ul,QB,QQ,QQ,QB,QQ,T5,QQ,QB,Zo,T5,trivial⟩ (by kernel_rfl) (fun x=>by kernel_rfl)
end
section
set_option maxRecDepth 100000
def F3(x0:((List UInt8)×Int)):Bool:=(iNe x0.2 0)
def Ij(x0:((List UInt8)×Int)):((List UInt8)×Int):=((sAdd (rowS [(iConv .u8 (iAdd .i64 48 (bSel (iLt (iRem x0.2 10) 0) (iNeg .i64 (iRem x0.2 10)) (iRem x0.2 10))))]) x0.1),(iQuo .i64 x0.2 10))
def Ik(x0:((List UInt8)×Int)):Prop:=(((iNe x0.2 0)=true→(((10:Int)≠0)∧((((List.length (rowS [(iConv .u8 (iAdd .i64 48 (bSel (iLt (iRem x0.2 10) 0) (iNeg .i64 (iRem x0.2 10)) (iRem x0.2 10))))]))+(List.length x0.1))≤9223372036854775807)∧((10:Int)≠0))))∧((iNe x0.2 0)=false→True))
theorem YH (x):De x=(bSel (iEq x 0) [(48:UInt8)] (bSel (iLt x 0) (sAdd [(45:UInt8)] (Am F3 Ij ([],x)).1) (Am F3 Ij ([],x)).1)):=(Dn.v x).trans (by kernel_rfl)
theorem YJ (x):GB x=(((iEq x 0)=true→True)∧((iEq x 0)=false→((LoopOk F3 Ij Ik ([],x))∧(((iLt x 0)=true→(((List.length [(45:UInt8)])+(List.length (Am F3 Ij ([],x)).1))≤9223372036854775807))∧((iLt x 0)=false→True))))):=(Dn.o x).trans (by kernel_rfl)
theorem TW (x):AG x=(bSel (bNot (Cc x)) [] (bSel (iEq x.1 0) [(110:UInt8),111,110,101] (bSel (iEq x.1 1) [(112:UInt8),97,115,115] (bSel (iEq x.1 3) (sAdd [(109:UInt8),111,58] (De x.2.2.2)) (bSel (iEq x.1 4) (sAdd [(116:UInt8),103,58] (De x.2.2.2)) (bSel (iEq x.1 5) (sAdd [(116:UInt8),111,58] (De x.2.2.2)) (bSel (iEq x.1 6) (sAdd (sAdd (B3 x.2.2.1) [(47:UInt8)]) (BE x.2.1)) (bSel (iEq x.1 7) (sAdd (sAdd (De x.2.2.2) [(47:UInt8)]) (BE x.2.1)) (bSel (iEq x.1 8) (sAdd [(111:UInt8),110,99,101,58] (B3 x.2.2.1)) (bSel (iEq x.1 9) (sAdd [(109:UInt8),97,99,114,111,58] (De x.2.2.2)) (bSel (iEq x.1 10) [(99:UInt8),97,112,115] (bSel (iEq x.2.2.1 0) (BE x.2.1) (sAdd (sAdd (B3 x.2.2.1) [(45:UInt8)]) (BE x.2.1)))))))))))))):=(Gy.v x).trans (by kernel_rfl)
theorem jv (x):LP x=((L3 x)∧(((bNot (Cc x))=true→True)∧((bNot (Cc x))=false→(((iEq x.1 0)=true→True)∧((iEq x.1 0)=false→(((iEq x.1 1)=true→True)∧((iEq x.1 1)=false→(((iEq x.1 3)=true→((GB x.2.2.2)∧(((List.length [(109:UInt8),111,58])+(List.length (De x.2.2.2)))≤9223372036854775807)))∧((iEq x.1 3)=false→(((iEq x.1 4)=true→((GB x.2.2.2)∧(((List.length [(116:UInt8),103,58])+(List.length (De x.2.2.2)))≤9223372036854775807)))∧((iEq x.1 4)=false→(((iEq x.1 5)=true→((GB x.2.2.2)∧(((List.length [(116:UInt8),111,58])+(List.length (De x.2.2.2)))≤9223372036854775807)))∧((iEq x.1 5)=false→(((iEq x.1 6)=true→((Jp x.2.2.1)∧((((List.length (B3 x.2.2.1))+(List.length [(47:UInt8)]))≤9223372036854775807)∧((Jt x.2.1)∧(((List.length (sAdd (B3 x.2.2.1) [(47:UInt8)]))+(List.length (BE x.2.1)))≤9223372036854775807)))))∧((iEq x.1 6)=false→(((iEq x.1 7)=true→((GB x.2.2.2)∧((((List.length (De x.2.2.2))+(List.length [(47:UInt8)]))≤9223372036854775807)∧((Jt x.2.1)∧(((List.length (sAdd (De x.2.2.2) [(47:UInt8)]))+(List.length (BE x.2.1)))≤9223372036854775807)))))∧((iEq x.1 7)=false→(((iEq x.1 8)=true→((Jp x.2.2.1)∧(((List.length [(111:UInt8),110,99,101,58])+(List.length (B3 x.2.2.1)))≤9223372036854775807)))∧((iEq x.1 8)=false→(((iEq x.1 9)=true→((GB x.2.2.2)∧(((List.length [(109:UInt8),97,99,114,111,58])+(List.length (De x.2.2.2)))≤9223372036854775807)))∧((iEq x.1 9)=false→(((iEq x.1 10)=true→True)∧((iEq x.1 10)=false→(((iEq x.2.2.1 0)=true→(Jt x.2.1))∧((iEq x.2.2.1 0)=false→((Jp x.2.2.1)∧((((List.length (B3 x.2.2.1))+(List.length [(45:UInt8)]))≤9223372036854775807)∧((Jt x.2.1)∧(((List.length (sAdd (B3 x.2.2.1) [(45:UInt8)]))+(List.length (BE x.2.1)))≤9223372036854775807))))))))))))))))))))))))))))):=(Gy.o x).trans (by kernel_rfl)
theorem YC (x):Fw x=(Ma x):=(EA.v x).trans (by kernel_rfl)
theorem YD (x):It x=(L8 x):=(EA.o x).trans (by kernel_rfl)
theorem Zq (x):GO x=(bSel (iEq x 3) [(109:UInt8),111,58] (bSel (iEq x 4) [(116:UInt8),103,58] (bSel (iEq x 5) [(116:UInt8),111,58] (bSel (iEq x 9) [(109:UInt8),97,99,114,111,58] [])))):=(GN.v x).trans (by kernel_rfl)
theorem Zj (x):N8 x=True:=(GN.o x).trans (by kernel_rfl)
theorem jm (x):Jo x=(bSel (bNot (ED x)) [] (bSel (iEq x.1 0) [(110:UInt8),111,110,101] (bSel (iEq x.1 1) [(112:UInt8),97,115,115] (bSel (iEq x.1 10) [(99:UInt8),97,112,115] (bSel (iEq x.1 2) (bSel (iNe x.2.2.1 0) (sAdd (sAdd (Fu x.2.2.1) [(45:UInt8)]) (Hq x.2.1)) (Hq x.2.1)) (bSel (iEq x.1 6) (sAdd (sAdd (Fu x.2.2.1) [(47:UInt8)]) (Hq x.2.1)) (bSel (iEq x.1 7) (sAdd (sAdd (Fw x.2.2.2) [(47:UInt8)]) (Hq x.2.1)) (bSel (iEq x.1 8) (sAdd [(111:UInt8),110,99,101,58] (Fu x.2.2.1)) (sAdd (GO x.1) (Fw x.2.2.2)))))))))):=(Fq.v x).trans (by kernel_rfl)
theorem jd (x):NG x=((KA x)∧(((bNot (ED x))=true→True)∧((bNot (ED x))=false→(((iEq x.1 0)=true→True)∧((iEq x.1 0)=false→(((iEq x.1 1)=true→True)∧((iEq x.1 1)=false→(((iEq x.1 10)=true→True)∧((iEq x.1 10)=false→(((iEq x.1 2)=true→(((iNe x.2.2.1 0)=true→((Jq x.2.2.1)∧((((List.length (Fu x.2.2.1))+(List.length [(45:UInt8)]))≤9223372036854775807)∧((KB x.2.1)∧(((List.length (sAdd (Fu x.2.2.1) [(45:UInt8)]))+(List.length (Hq x.2.1)))≤9223372036854775807)))))∧((iNe x.2.2.1 0)=false→(KB x.2.1))))∧((iEq x.1 2)=false→(((iEq x.1 6)=true→((Jq x.2.2.1)∧((((List.length (Fu x.2.2.1))+(List.length [(47:UInt8)]))≤9223372036854775807)∧((KB x.2.1)∧(((List.length (sAdd (Fu x.2.2.1) [(47:UInt8)]))+(List.length (Hq x.2.1)))≤9223372036854775807)))))∧((iEq x.1 6)=false→(((iEq x.1 7)=true→((It x.2.2.2)∧((((List.length (Fw x.2.2.2))+(List.length [(47:UInt8)]))≤9223372036854775807)∧((KB x.2.1)∧(((List.length (sAdd (Fw x.2.2.2) [(47:UInt8)]))+(List.length (Hq x.2.1)))≤9223372036854775807)))))∧((iEq x.1 7)=false→(((iEq x.1 8)=true→((Jq x.2.2.1)∧(((List.length [(111:UInt8),110,99,101,58])+(List.length (Fu x.2.2.1)))≤9223372036854775807)))∧((iEq x.1 8)=false→((N8 x.1)∧((It x.2.2.2)∧(((List.length (GO x.1))+(List.length (Fw x.2.2.2)))≤9223372036854775807)))))))))))))))))))):=(Fq.o x).trans (by kernel_rfl)
attribute [irreducible] De GB AG LP Fw It GO N8 Jo NG
end
section
set_option maxRecDepth 8000
def iH:DCode:=(.seq [1,0] (.region [oa 0 4 (.mv (.c (.bool false)))]) (.seq [4] (.region [om 0 5 0,oa 1 6 (.lenT (.t 5)),om 2 7 1,oa 3 8 (.lenT (.t 7)),oa 4 9 (.bin .geq (.t 6) (.t 8)),om 5 10 9,og 6 11 (.mv (.t 0)) 10 true,og 7 12 (.mv (.t 1)) 10 true,og 8 13 (.lenT (.t 12)) 10 true,og 9 14 (.substr (.t 11) none (some (.t 13))) 10 true,og 10 15 (.mv (.t 1)) 10 true,og 11 16 (.bin .eql (.t 14) (.t 15)) 10 true,oa 12 17 (.pick (.t 10) (.t 16) (.c (.bool false))),om 13 4 17]) .ret))
def Ic:Fn:=⟨⟨2,18,0,true,[.tmp 4],iH⟩,[.one .frz (.str),.one .frz (.str)],.one (.one .own (.bool))⟩
theorem iI:Ic.A:=Be trivial
def Kl:List UInt8×List UInt8→Bool:=Ic.V
def Nx:List UInt8×List UInt8→Prop:=Ic.O
theorem iJ:Ic.B:=Bj trivial (by kernel_rfl) (fun x=>by kernel_rfl)
def iK:DCode:=(.seq [1,0] (.region [oa 0 4 (.mv (.c (.str []))),oa 1 5 (.mv (.c (.bool false)))]) (.seq [1,0] (.seq [9,1,0] (.region [om 0 6 0,om 1 7 1,oF 2 8 Ic [(.t 6),(.t 7)],oa 3 9 (.un .not (.t 8))]) (.cond (.t 9) (.seq [5,4] (.region [om 0 10 0,om 1 4 10,oa 2 5 (.mv (.c (.bool false)))]) .ret) .skip)) (.seq [5,4] (.region [om 0 11 0,om 1 12 1,oa 2 13 (.lenT (.t 12)),oa 3 14 (.substr (.t 11) (some (.t 13)) none),om 4 4 14,oa 5 5 (.mv (.c (.bool true)))]) .ret)))
def Ib:Fn:=⟨⟨2,15,0,true,[.tmp 4,.tmp 5],iK⟩,[.one .frz (.str),.one .frz (.str)],.tup [.one .own (.str),.one .own (.bool)]⟩
theorem iL:Ib.A:=Be ⟨iI,trivial⟩
def TO:List UInt8×List UInt8→List UInt8×Bool:=Ib.V
def TN:List UInt8×List UInt8→Prop:=Ib.O
theorem iM:Ib.B:=Bj ⟨iJ,trivial⟩ (by kernel_rfl) (fun x=>by kernel_rfl)
def jw:DCode:=(.seq [1,0] (.region [oa 0 4 (.mv (.c (.str []))),oa 1 5 (.mv (.c (.bool false)))]) (.seq [5,4] (.region [om 0 6 0,om 1 7 1,oF 2 8 Ib [(.t 6),(.t 7)],oa 3 9 (.extract (.t 8) 0),oa 4 10 (.extract (.t 8) 1),om 5 4 9,om 6 5 10]) .ret))
def Gx:Fn:=⟨⟨2,11,0,true,[.tmp 4,.tmp 5],jw⟩,[.one .frz (.str),.one .frz (.str)],.tup [.one .own (.str),.one .own (.bool)]⟩
theorem Yf:Gx.A:=Be ⟨iL,trivial⟩
def Ew:List UInt8×List UInt8→List UInt8×Bool:=Gx.V
def Kt:List UInt8×List UInt8→Prop:=Gx.O
theorem Yh:Gx.B:=Bj ⟨iM,trivial⟩ (by kernel_rfl) (fun x=>by kernel_rfl)
def lD:DCode:=(.seq [0] (.region [oi 0 2 0,oa 1 3 (.mv (.c (.bool false)))]) (.seq [0] (.seq [13,0] (.region [om 0 6 0,oa 1 7 (.lenT (.t 6)),oa 2 8 (.bin .lss (.t 7) (.c (.int .i64 1))),om 3 9 8,og 4 10 (.mv (.t 0)) 9 false,og 5 11 (.lenT (.t 10)) 9 false,og 6 12 (.bin .gtr (.t 11) (.c (.int .i64 10))) 9 false,oa 7 13 (.pick (.t 9) (.c (.bool true)) (.t 12))]) (.cond (.t 13) (.seq [3,2] (.region [oi 0 2 0,oa 1 3 (.mv (.c (.bool false)))]) .ret) .skip)) (.seq [5,4,0] (.region [om 0 15 0,oc 1 16 N9 Oe Zf [(.t 15)],om 2 14 16,oa 3 17 (.extract (.t 14) 0),oa 4 18 (.extract (.t 14) 1),om 5 4 17,om 6 5 18]) (.seq [4] (.seq [34,4] (.region [om 0 19 5,oa 1 20 (.eqN true (.t 19) (.c (.ifc true))),om 2 21 20,og 3 22 (.mv (.t 4)) 21 false,og 4 23 (.bin .lss (.t 22) (.c (.int .i64 (-999999999)))) 21 false,oa 5 24 (.pick (.t 21) (.c (.bool true)) (.t 23)),om 6 25 24,og 7 26 (.mv (.t 4)) 25 false,og 8 27 (.bin .gtr (.t 26) (.c (.int .i64 999999999))) 25 false,oa 9 28 (.pick (.t 25) (.c (.bool true)) (.t 27)),om 10 29 28,og 11 30 (.mv (.t 4)) 29 false,⟨12,some 31,.call false EA.S EA.P EA.D [(.t 30)],(some (29,false)),[]⟩,og 13 32 (.mv (.t 0)) 29 false,og 14 33 (.bin .neq (.t 31) (.t 32)) 29 false,oa 15 34 (.pick (.t 29) (.c (.bool true)) (.t 33))]) (.cond (.t 34) (.seq [3,2] (.region [oi 0 2 0,oa 1 3 (.mv (.c (.bool false)))]) .ret) .skip)) (.seq [3,2] (.region [om 0 35 4,om 1 2 35,oa 2 3 (.mv (.c (.bool true)))]) .ret)))))
def GK:Fn:=⟨⟨1,36,0,true,[.tmp 2,.tmp 3],lD⟩,[.one .frz (.str)],.tup [.one .own (.int .i64),.one .own (.bool)]⟩
theorem YS:GK.A:=Be ⟨mi,T8,trivial⟩
def F5:List UInt8→Int×Bool:=GK.V
def KC:List UInt8→Prop:=GK.O
theorem YV:GK.B:=Bj ⟨mh,T5,trivial⟩ (by kernel_rfl) (fun x=>by kernel_rfl)
def jZ:DCode:=(.seq [2,0] (.region [oa 0 2 (.allocB 0 [(.int .i64 0),(.int .i64 0),(.int .i64 0),(.int .i64 0)])]) (.seq [2,0] (.seq [19,2,0] (.region [om 0 19 0]) (.block 0 (.seq [20,19,2,0] (.region [oa 0 21 (.bin .eql (.t 19) (.c (.str [110,111,110,101]))),om 1 20 21]) (.cond (.t 20) (.seq [2] (.region [oa 0 22 (.build [(.int .i64 0),(.int .i64 0),(.int .i64 0),(.int .i64 0)] []),os 1 (.storeB 0 4 (.t 2) (.t 22))]) .ret) (.seq [23,19,2,0] (.region [oa 0 24 (.bin .eql (.t 19) (.c (.str [112,97,115,115]))),om 1 23 24]) (.cond (.t 23) (.seq [2] (.region [oa 0 25 (.build [(.int .i64 0),(.int .i64 0),(.int .i64 0),(.int .i64 0)] [(0,1,(.c (.int .i64 1)))]),os 1 (.storeB 0 4 (.t 2) (.t 25))]) .ret) (.seq [26,2,0] (.region [oa 0 27 (.bin .eql (.t 19) (.c (.str [99,97,112,115]))),om 1 26 27]) (.cond (.t 26) (.seq [2] (.region [oa 0 28 (.build [(.int .i64 0),(.int .i64 0),(.int .i64 0),(.int .i64 0)] [(0,1,(.c (.int .i64 10)))]),os 1 (.storeB 0 4 (.t 2) (.t 28))]) .ret) .skip)))))))) (.seq [2,0] (.seq [31,30,29,2,0] (.region [⟨0,some 29,.a false (.litSlice 1 4 [(.int .i64 0),(.int .i64 0),(.int .i64 0),(.int .i64 0)] [(0,1,(.c (.int .i64 3))),(1,1,(.c (.int .i64 4))),(2,1,(.c (.int .i64 5))),(3,1,(.c (.int .i64 9)))]) (some (.one (.int .i64))),none,[]⟩,oa 1 30 (.len (.t 29)),oi 2 31 0]) (.block 1 (.loop [0,2,29,30,31] 1 (.seq [32,31,30,29,2,0] (.region [oa 0 32 (.bin .lss (.t 31) (.t 30))]) (.seq [31,30,29,2,0] (.cond (.t 32) .skip (.exit 1)) (.seq [31,30,29,2,0] (.block 2 (.seq [31,30,29,4,2,0] (.region [oa 0 33 (.indexA 1 (.t 29) (.t 31)),ob 1 34 (.loadH none (.t 33)),om 2 4 34]) (.seq [31,30,29,6,5,4,2,0] (.region [om 0 36 0,om 1 37 4,oF 2 38 GN [(.t 37)],oF 3 39 Gx [(.t 36),(.t 38)],om 4 35 39,oa 5 40 (.extract (.t 35) 0),oa 6 41 (.extract (.t 35) 1),om 7 5 40,om 8 6 41]) (.seq [42,31,30,29,5,4,2,0] (.region [om 0 42 6]) (.cond (.t 42) (.seq [7,4,2] (.region [om 0 44 5,oF 1 45 GK [(.t 44)],om 2 43 45,oa 3 46 (.extract (.t 43) 0),oa 4 47 (.extract (.t 43) 1),om 5 7 46,om 6 8 47]) (.seq [2] (.region [om 0 48 4,om 1 49 7,oa 2 50 (.build [(.int .i64 0),(.int .i64 0),(.int .i64 0),(.int .i64 0)] [(0,1,(.t 48)),(3,1,(.t 49))]),os 3 (.storeB 0 4 (.t 2) (.t 50))]) .ret)) .skip))))) (.region [oa 0 51 (.bin .add (.t 31) (.c (.int .i64 1))),om 1 31 51]))))))) (.seq [2,0] (.seq [10,9,2,0] (.region [om 0 53 0,oF 1 54 Gx [(.t 53),(.c (.str [111,110,99,101,58]))],om 2 52 54,oa 3 55 (.extract (.t 52) 0),oa 4 56 (.extract (.t 52) 1),om 5 9 55,om 6 10 56]) (.seq [57,9,2,0] (.region [om 0 57 10]) (.cond (.t 57) (.seq [2] (.region [om 0 58 9,oF 1 59 Fv [(.t 58)],oa 2 60 (.build [(.int .i64 0),(.int .i64 0),(.int .i64 0),(.int .i64 0)] [(0,1,(.c (.int .i64 8))),(2,1,(.t 59))]),os 3 (.storeB 0 4 (.t 2) (.t 60))]) .ret) .skip))) (.seq [2,0] (.seq [13,12,11,2,0] (.region [om 0 62 0,oF 1 63 GL [(.t 62),(.c (.str [47]))],om 2 61 63,oa 3 64 (.extract (.t 61) 0),oa 4 65 (.extract (.t 61) 1),oa 5 66 (.extract (.t 61) 2),om 6 11 64,om 7 12 65,om 8 13 66]) (.seq [67,12,11,2,0] (.region [om 0 67 13]) (.cond (.t 67) (.seq [12,11,2] (.seq [15,14,12,11,2] (.region [om 0 69 11,oF 1 70 GK [(.t 69)],om 2 68 70,oa 3 71 (.extract (.t 68) 0),oa 4 72 (.extract (.t 68) 1),om 5 14 71,om 6 15 72]) (.seq [73,14,12,11,2] (.region [om 0 73 15]) (.cond (.t 73) (.seq [2] (.region [om 0 74 14,om 1 75 12,oF 2 76 EI [(.t 75)],oa 3 77 (.build [(.int .i64 0),(.int .i64 0),(.int .i64 0),(.int .i64 0)] [(0,1,(.c (.int .i64 7))),(3,1,(.t 74)),(1,1,(.t 76))]),os 4 (.storeB 0 4 (.t 2) (.t 77))]) .ret) .skip))) (.seq [2] (.region [om 0 78 11,oF 1 79 Fv [(.t 78)],om 2 80 12,oF 3 81 EI [(.t 80)],oa 4 82 (.build [(.int .i64 0),(.int .i64 0),(.int .i64 0),(.int .i64 0)] [(0,1,(.c (.int .i64 6))),(2,1,(.t 79)),(1,1,(.t 81))]),os 5 (.storeB 0 4 (.t 2) (.t 82))]) .ret)) .skip))) (.seq [2,0] (.seq [18,17,16,2,0] (.region [om 0 84 0,oF 1 85 GL [(.t 84),(.c (.str [45]))],om 2 83 85,oa 3 86 (.extract (.t 83) 0),oa 4 87 (.extract (.t 83) 1),oa 5 88 (.extract (.t 83) 2),om 6 16 86,om 7 17 87,om 8 18 88]) (.seq [89,17,16,2,0] (.region [om 0 89 18]) (.cond (.t 89) (.seq [2] (.region [om 0 90 16,oF 1 91 Fv [(.t 90)],om 2 92 17,oF 3 93 EI [(.t 92)],oa 4 94 (.build [(.int .i64 0),(.int .i64 0),(.int .i64 0),(.int .i64 0)] [(0,1,(.c (.int .i64 2))),(2,1,(.t 91)),(1,1,(.t 93))]),os 5 (.storeB 0 4 (.t 2) (.t 94))]) .ret) .skip))) (.seq [2] (.region [om 0 95 0,oF 1 96 EI [(.t 95)],oa 2 97 (.build [(.int .i64 0),(.int .i64 0),(.int .i64 0),(.int .i64 0)] [(0,1,(.c (.int .i64 2))),(1,1,(.t 96))]),os 3 (.storeB 0 4 (.t 2) (.t 97))]) .ret)))))))
def Io:Fn:=⟨⟨1,98,1,true,[.cell 2 (some 4)],jZ⟩,[.one .frz (.str)],.one (.agg [(.own,.int .i64),(.own,.int .i64),(.own,.int .i64),(.own,.int .i64)])⟩
theorem jV:Io.A:=Be ⟨Zm,Yf,YS,Yf,T9,Zi,YS,Q4,T9,Q4,Zi,T9,Q4,Q4,trivial⟩
def Dm:List UInt8→Int×Int×Int×Int:=Io.V
def Qw:List UInt8→Prop:=Io.O
theorem j5:Io.B:=Bj ⟨Zo,Yh,YV,Yh,Ub,Zp,YV,QZ,Ub,QZ,Zp,Ub,QZ,QZ,trivial⟩ (by kernel_rfl) (fun x=>by kernel_rfl)
def jU:DCode:=(.seq [2,0] (.region [oa 0 2 (.allocB 0 [(.int .i64 0),(.int .i64 0),(.int .i64 0),(.int .i64 0)]),oa 1 3 (.mv (.c (.bool false)))]) (.seq [4,2,0] (.region [om 0 5 0,oF 1 6 Io [(.t 5)],oa 2 4 (.allocB 1 [(.int .i64 0),(.int .i64 0),(.int .i64 0),(.int .i64 0)]),os 3 (.storeB 1 4 (.t 4) (.t 6))]) (.seq [4,2] (.seq [15,4,2] (.region [oa 0 7 (.loadB 1 (some 4) (.t 4)),oF 1 8 Fy [(.t 7)],oa 2 9 (.un .not (.t 8)),om 3 10 9,og 4 11 (.loadB 1 (some 4) (.t 4)) 10 false,⟨5,some 12,.call false Fq.S Fq.P Fq.D [(.t 11)],(some (10,false)),[]⟩,og 6 13 (.mv (.t 0)) 10 false,og 7 14 (.bin .neq (.t 12) (.t 13)) 10 false,oa 8 15 (.pick (.t 10) (.c (.bool true)) (.t 14))]) (.cond (.t 15) (.seq [3,2] (.region [oa 0 16 (.build [(.int .i64 0),(.int .i64 0),(.int .i64 0),(.int .i64 0)] []),os 1 (.storeB 0 4 (.t 2) (.t 16)),oa 2 3 (.mv (.c (.bool false)))]) .ret) .skip)) (.seq [3,2] (.region [ob 0 17 (.loadB 1 (some 4) (.t 4)),os 1 (.storeB 0 4 (.t 2) (.t 17)),oa 2 3 (.mv (.c (.bool true)))]) .ret))))
def Iq:Fn:=⟨⟨1,18,2,true,[.cell 2 (some 4),.tmp 3],jU⟩,[.one .frz (.str)],.tup [.agg [(.own,.int .i64),(.own,.int .i64),(.own,.int .i64),(.own,.int .i64)],.one .own (.bool)]⟩
theorem jF:Iq.A:=Be ⟨jV,Uh,Yi,trivial⟩
def Ir:List UInt8→(Int×Int×Int×Int)×Bool:=Iq.V
def LS:List UInt8→Prop:=Iq.O
theorem j9:Iq.B:=Bj ⟨j5,Ul,Yj,trivial⟩ (by kernel_rfl) (fun x=>by kernel_rfl)
end
section
set_option maxRecDepth 100000
theorem X5 (x):Kl x=(bAnd (iGe (lLen x.1) (lLen x.2)) (sEq (lSub x.1 0 (iNat (lLen x.2))) x.2)):=(Ic.v x).trans (by kernel_rfl)
theorem X8 (x):Nx x=(((iGe (lLen x.1) (lLen x.2))=true→(((0:Int)≤(lLen x.2))∧((0≤(iNat (lLen x.2)))∧((iNat (lLen x.2))≤(List.length x.1)))))∧((iGe (lLen x.1) (lLen x.2))=false→True)):=(Ic.o x).trans (by kernel_rfl)
theorem X7 (x):TO x=(bSel (bNot (Kl x)) (x.1,false) ((lSub x.1 (iNat (lLen x.2)) (lN x.1)),true)):=(Ib.v x).trans (by kernel_rfl)
theorem X6 (x):TN x=((Nx x)∧(((bNot (Kl x))=true→True)∧((bNot (Kl x))=false→(((0:Int)≤(lLen x.2))∧(((iNat (lLen x.2))≤(lN x.1))∧((lN x.1)≤(List.length x.1))))))):=(Ib.o x).trans (by kernel_rfl)
theorem Yl (x):Ew x=(TO x):=(Gx.v x).trans (by kernel_rfl)
theorem Yk (x):Kt x=(TN x):=(Gx.o x).trans (by kernel_rfl)
theorem lu (x):F5 x=(bSel (bOr (iLt (lLen x) 1) (iGt (lLen x) 10)) (0,false) (bSel (bOr (bNot (Dy x).2) (bOr (iLt (Dy x).1 (-999999999)) (bOr (iGt (Dy x).1 999999999) (sNe (Fw (Dy x).1) x)))) (0,false) ((Dy x).1,true))):=(GK.v x).trans (by kernel_rfl)
theorem lj (x):KC x=(((bOr (iLt (lLen x) 1) (iGt (lLen x) 10))=true→True)∧((bOr (iLt (lLen x) 1) (iGt (lLen x) 10))=false→((L9 x)∧(((bNot (Dy x).2)=true→True)∧((bNot (Dy x).2)=false→(((iLt (Dy x).1 (-999999999))=true→True)∧((iLt (Dy x).1 (-999999999))=false→(((iGt (Dy x).1 999999999)=true→True)∧((iGt (Dy x).1 999999999)=false→(It (Dy x).1)))))))))):=(GK.o x).trans (by kernel_rfl)
def Fp(x:List UInt8)(x0:Int):Bool:=(bAnd (iLt x0 (lLen [(3:Int),4,5,9])) (bNot (Ew (x,(GO (lGet [3,4,5,9] (iNat x0) 0)))).2))
def F2(x0:Int):Int:=(iAdd .i64 x0 1)
def Qq(x:List UInt8)(x0:Int):Prop:=(((iLt x0 (lLen [(3:Int),4,5,9]))=true→((((0:Int)≤x0)∧(x0<(((List.length [(3:Int),4,5,9]):Int))))∧(((iNat x0)<(List.length [(3:Int),4,5,9]))∧((N8 (lGet [3,4,5,9] (iNat x0) 0))∧((Kt (x,(GO (lGet [3,4,5,9] (iNat x0) 0))))∧(((Ew (x,(GO (lGet [3,4,5,9] (iNat x0) 0)))).2=true→(KC (Ew (x,(GO (lGet [3,4,5,9] (iNat x0) 0)))).1))∧((Ew (x,(GO (lGet [3,4,5,9] (iNat x0) 0)))).2=false→True)))))))∧((iLt x0 (lLen [(3:Int),4,5,9]))=false→True))
theorem LQ (x):Dm x=(bSel (sEq x [(110:UInt8),111,110,101]) (0,0,0,0) (bSel (sEq x [(112:UInt8),97,115,115]) (1,0,0,0) (bSel (sEq x [(99:UInt8),97,112,115]) (10,0,0,0) (bSel (iLt (Am (Fp x) F2 0) (lLen [(3:Int),4,5,9])) ((lGet [3,4,5,9] (iNat (Am (Fp x) F2 0)) 0),0,0,(F5 (Ew (x,(GO (lGet [3,4,5,9] (iNat (Am (Fp x) F2 0)) 0)))).1).1) (bSel (Ew (x,[(111:UInt8),110,99,101,58])).2 (8,0,(Js (Ew (x,[(111:UInt8),110,99,101,58])).1),0) (bSel (BV (x,[(47:UInt8)])).2.2 (bSel (F5 (BV (x,[(47:UInt8)])).1).2 (7,(GM (BV (x,[(47:UInt8)])).2.1),0,(F5 (BV (x,[(47:UInt8)])).1).1) (6,(GM (BV (x,[(47:UInt8)])).2.1),(Js (BV (x,[(47:UInt8)])).1),0)) (bSel (BV (x,[(45:UInt8)])).2.2 (2,(GM (BV (x,[(45:UInt8)])).2.1),(Js (BV (x,[(45:UInt8)])).1),0) (2,(GM x),0,0)))))))):=(Io.v x).trans (by kernel_rfl)
theorem jz (x):Qw x=(((sEq x [(110:UInt8),111,110,101])=true→True)∧((sEq x [(110:UInt8),111,110,101])=false→(((sEq x [(112:UInt8),97,115,115])=true→True)∧((sEq x [(112:UInt8),97,115,115])=false→(((sEq x [(99:UInt8),97,112,115])=true→True)∧((sEq x [(99:UInt8),97,112,115])=false→((LoopOk (Fp x) F2 (Qq x) 0)∧(((iLt (Am (Fp x) F2 0) (lLen [(3:Int),4,5,9]))=true→True)∧((iLt (Am (Fp x) F2 0) (lLen [(3:Int),4,5,9]))=false→((Kt (x,[(111:UInt8),110,99,101,58]))∧(((Ew (x,[(111:UInt8),110,99,101,58])).2=true→(Kw (Ew (x,[(111:UInt8),110,99,101,58])).1))∧((Ew (x,[(111:UInt8),110,99,101,58])).2=false→((KI (x,[(47:UInt8)]))∧(((BV (x,[(47:UInt8)])).2.2=true→((KC (BV (x,[(47:UInt8)])).1)∧(((F5 (BV (x,[(47:UInt8)])).1).2=true→(Ju (BV (x,[(47:UInt8)])).2.1))∧((F5 (BV (x,[(47:UInt8)])).1).2=false→((Kw (BV (x,[(47:UInt8)])).1)∧(Ju (BV (x,[(47:UInt8)])).2.1))))))∧((BV (x,[(47:UInt8)])).2.2=false→((KI (x,[(45:UInt8)]))∧(((BV (x,[(45:UInt8)])).2.2=true→((Kw (BV (x,[(45:UInt8)])).1)∧(Ju (BV (x,[(45:UInt8)])).2.1)))∧((BV (x,[(45:UInt8)])).2.2=false→(Ju x))))))))))))))))))):=(Io.o x).trans (by kernel_rfl)
theorem jR (x):Ir x=(bSel (bOr (bNot (ED (Dm x))) (sNe (Jo (Dm x)) x)) ((0,0,0,0),false) ((Dm x),true)):=(Iq.v x).trans (by kernel_rfl)
theorem j6 (x):LS x=((Qw x)∧((KA (Dm x))∧(((bNot (ED (Dm x)))=true→True)∧((bNot (ED (Dm x)))=false→(NG (Dm x)))))):=(Iq.o x).trans (by kernel_rfl)
attribute [irreducible] Kl Nx TO TN Ew Kt F5 KC Dm Qw Ir LS
end
theorem AB(a:Bool):bNot a=!a:=by simp only[M5]
theorem Az(a b:Bool):bAnd a b=(a&&b):=by simp only[W6]
theorem Ca(a b:Bool):bOr a b=(a||b):=by simp only[gR]
theorem MO(a b:Bool):bIff a b=(a == b):=by simp only[fQ]
theorem Bp{α:Type}(c:Bool)(x y:α):bSel c x y=if c=true then x else y:=by cases c<;>simp[Bq,Bh]
theorem CV(a b:Int):iEq a b=decide (a=b):=by
 rw[Tx];by_cases h:a=b<;>simp[h]
theorem CU(a b:Int):iNe a b=!decide (a=b):=by
 rw[ik];by_cases h:a=b<;>simp[h]
theorem Ar(a b:Int):iLt a b=decide (a<b):=by simp only[ig]
theorem CS(a b:Int):iLe a b=decide (a≤b):=by simp only[gM]
theorem DZ(a b:Int):iGt a b=decide (b<a):=by simp only[hJ]
theorem C9(a b:Int):iGe a b=decide (b≤a):=by simp only[iq]
theorem B8(a b:List UInt8):sEq a b=(a == b):=by simp only[gN]
theorem JT(a b:List UInt8):sNe a b=!(a == b):=by simp only[ie]
section
variable {α:Type}
theorem Ap(l:List α):lLen l=(l.length:Int):=by simp only[WS]
theorem Ng(l:List α):lN l=l.length:=by simp only[Qb]
theorem BS(l:List α)(j:Nat)(d:α):lGet l j d=l.getD j d:=by simp only[MZ]
theorem vG(l:List α)(j:Nat)(x:α):lSet l j x=l.set j x:=by simp only[PF]
theorem HD(l:List α)(a b:Nat):lSub l a b=(l.drop a).take (b-a):=by simp only[Xr]
theorem uf(l:List α)(n:Nat):lTake l n=l.take n:=by simp only[Wq]
theorem FH(l m:List α):lApp l m=l++m:=by simp only[Ln]
theorem uK(n:Int)(x:α):lRep n x=List.replicate n.toNat x:=by simp only[fF]
theorem AL(a:Int):iNat a=a.toNat:=by simp only[Xe]
theorem JM(a b:List UInt8):sAdd a b=a++b:=by simp only[fH]
end
def A5(n:Int):Prop:=-9223372036854775808≤n∧n≤9223372036854775807
theorem wrap_i64{n:Int}(h:A5 n):IntKind.i64.wrap n=n:=by
 obtain⟨h1,h2⟩:=h;show (if decide (n % 18446744073709551616≥9223372036854775808)=true then n % 18446744073709551616-18446744073709551616 else n % 18446744073709551616)=n;simp only[A6];split<;>omega
theorem Cx{a b:Int}(h:A5 (a+b)):iAdd .i64 a b=a+b:=by rw[Xf];exact wrap_i64 h
theorem VI{a b:Int}(h:A5 (a-b)):iSub .i64 a b=a-b:=by rw[gj];exact wrap_i64 h
theorem sT{a b:Int}(h:A5 (a*b)):iMul .i64 a b=a*b:=by rw[fP];exact wrap_i64 h
theorem dg{a:Int}(h:A5 (0-a)):iNeg .i64 a=-a:=by rw[fB];rw[wrap_i64 h];omega
theorem rG{a:Int}(h:A5 a):iConv .i64 a=a:=by rw[SH];exact wrap_i64 h
theorem tn{a b:Int}(ha:0≤a)(h:A5 (a / b)):iQuo .i64 a b=a / b:=by
 rw[Xo];rw[Int.tdiv_eq_ediv_of_nonneg ha];exact wrap_i64 h
theorem vc{a b:Int}(ha:0≤a):iRem a b=a % b:=by rw[Td];exact Int.tmod_eq_emod_of_nonneg ha
section
variable {X:Type} {c:X→Bool} {f:X→X} {p:X→Prop}
theorem IQ(I:X→Prop)(m:X→Nat)(h:∀ x,I x→p x∧(c x=true→I (f x)∧m (f x)<m x)){x0:X}(h0:I x0) :
 LoopOk c f p x0∧I (Am c f x0)∧c (Am c f x0)=false:=by
 have go:∀ (n:Nat) (x:X),m x<n→I x→∃ y,LoopTo c f p x y∧I y∧c y=false:=by
  intro n
  induction n with
  |zero=>intro x hm;exact absurd hm (Xp _)
  | succ n ih=>
    intro x hm hI;obtain⟨h1,h2⟩:=h x hI
    cases hc:c x with
    |false=>exact⟨x,.stop h1 hc,hI,hc⟩
    | true=>
      obtain⟨h3,h4⟩:=h2 hc;obtain⟨y,h5,h6,h7⟩:=ih (f x) (by omega) h3;exact⟨y,.go h1 hc h5,h6,h7⟩
 obtain⟨y,h1,h2,h3⟩:=go _ x0 (Xt _) h0
 rw[h1.val]
 exact⟨⟨y,h1⟩,h2,h3⟩
theorem Eg(n:Nat)(st:Nat→X){x0:X}(h0:st 0=x0)(hs:∀ k,k<n→p (st k)∧c (st k)=true∧f (st k)=st (k+1))(he:p (st n)∧c (st n)=false):LoopOk c f p x0∧Am c f x0=st n:=by
 have go:∀ k,k≤n→LoopTo c f p (st (n-k)) (st n):=by
  intro k
  induction k with
  |zero=>intro _;exact .stop he.1 he.2
  | succ k ih=>
    intro hk;obtain⟨h1,h2,h3⟩:=hs (n-(k+1)) (by omega);refine .go h1 h2 ?_;rw[h3,show n-(k+1)+1=n-k by omega];exact ih (by omega)
 have:=go n (AH _);rw[Ps,h0] at this;exact⟨⟨_,this⟩,this.val⟩
end
def Di(t:Nat→Bool):Nat→Nat→Nat
 |0,i=>i
 |k+1,i=>if t i then i else Di t k (i+1)
theorem Ow(t:Nat→Bool):∀ k i,i≤Di t k i∧Di t k i≤i+k
 |0,i=>⟨AH _,AH _⟩
 | k+1,i=>by
   unfold Di
   split
   · omega
   · have:=Ow t k (i+1);omega
theorem Ru(t:Nat→Bool):∀ k i,Di t k i<i+k→t (Di t k i)=true
 |0,i,h=>by unfold Di at h;omega
 | k + 1,i,h=>by
   unfold Di at h ⊢
   split
   · rename_i ht;exact ht
   · rename_i ht
     rw[Ad ht] at h
     exact Ru t k (i+1) (by omega)
theorem U3(t:Nat→Bool):∀ k i j,i≤j→j<Di t k i→t j=false
 |0,i,j,h,h'=>by unfold Di at h';omega
 | k + 1,i,j,h,h'=>by
   unfold Di at h'
   split at h'
   · omega
   · rename_i ht
     by_cases hj:j=i
     · subst hj;simpa using ht
     · exact U3 t k (i+1) j (by omega) h'
theorem bz{c:Int→Bool}{f:Int→Int}{p:Int→Prop}(n:Nat)(t:Nat→Bool)(hn:(n:Int)≤9223372036854775806)(hc:∀ i:Nat,i≤n→c i=(decide (i<n)&&!t i))(hf:∀ i:Nat,i<n→f i=iAdd .i64 i 1)(hp:∀ i:Nat,i≤n→p i) :
 LoopOk c f p 0∧Am c f 0=(Di t n 0:Nat):=by
 have hle:=Ow t n 0
 refine Eg (Di t n 0) (fun k=>(k:Int)) rfl (fun k hk=>?_) ⟨hp _ (by omega),?_⟩
 · have hk':k<n:=by omega
   refine⟨hp k (by omega),?_,?_⟩
   · rw[hc k (by omega),U3 t n 0 k (by omega) hk];simp[hk']
   · rw[hf k hk',Cx (by unfold A5;omega)];omega
 · rw[hc _ (by omega)]
   by_cases h:Di t n 0<n
   · rw[Ru t n 0 (by omega)];simp
   · simp[h]
theorem Z0{t:Nat→Bool}{n:Nat}:Di t n 0=n↔∀ i,i<n→t i=false:=by
 constructor
 · intro h i hi;exact U3 t n 0 i (by omega) (by omega)
 · intro h;have hle:=Ow t n 0;rcases Bc (Di t n 0) n with h1|h1
   · have:=Ru t n 0 (by omega);rw[h _ h1] at this;cases this
   · omega
theorem dU{α:Type}{c:Int→Bool}{f:Int→Int}{p:Int→Prop}(a b:List α)(d:α)(ne:Nat→Bool)(hl:a.length=b.length)(hne:∀ i,i<a.length→(ne i=false↔a.getD i d=b.getD i d))(hn:(a.length:Int)≤9223372036854775806)(hc:∀ i:Nat,i≤a.length→c i=(decide (i<a.length)&&!ne i))(hf:∀ i:Nat,i<a.length→f i=iAdd .i64 i 1)(hp:∀ i:Nat,i≤a.length→p i) :
 LoopOk c f p 0∧(Am c f 0<(a.length:Int)↔a≠b):=by
 obtain⟨h1,h2⟩:=bz a.length ne hn hc hf hp
 refine⟨h1,?_⟩
 rw[h2]
 have hle:=Ow ne a.length 0
 constructor
 · intro h hab
   subst hab;have:=Ru ne a.length 0 (by omega);rw[(hne _ (by omega)).2 rfl] at this;cases this
 · intro h
   rcases Bc (Di ne a.length 0) a.length with h3|h3
   · omega
   · exfalso;apply h
     have h4:Di ne a.length 0=a.length:=by omega
     rw[Z0] at h4
     refine WV hl fun i hi hi'=>?_
     have:=(hne i hi).1 (h4 i hi);rw[BT,BT,Ax hi,Ax hi'] at this;simpa using this
theorem v8{c:Int→Bool}{f:Int→Int}(n:Nat)(t:Nat→Bool)(hn:(n:Int)≤9223372036854775806)(hc:∀ i:Nat,i≤n→c i=(decide (i<n)&&!t i))(hf:∀ i:Nat,i<n→f i=iAdd .i64 i 1):Am c f 0=(Di t n 0:Nat):=(bz (p:=fun _=>True) n t hn hc hf (fun _ _=>trivial)).2
theorem hZ{α:Type}{c:Int→Bool}{f:Int→Int}{p:Int→Prop}(a b:List α)(d:α)(ne:Nat→Bool)(hl:a.length=b.length)(hne:∀ i,i<a.length→(ne i=false↔a.getD i d=b.getD i d))(hn:(a.length:Int)≤9223372036854775806)(hc:∀ i:Nat,i≤a.length→c i=(decide (i<a.length)&&!ne i))(hf:∀ i:Nat,i<a.length→f i=iAdd .i64 i 1)(hp:∀ i:Nat,i≤a.length→p i):LoopOk c f p 0:=(dU a b d ne hl hne hn hc hf hp).1
theorem iC{α:Type}{c:Int→Bool}{f:Int→Int}(a b:List α)(d:α)(ne:Nat→Bool)(hl:a.length=b.length)(hne:∀ i,i<a.length→(ne i=false↔a.getD i d=b.getD i d))(hn:(a.length:Int)≤9223372036854775806)(hc:∀ i:Nat,i≤a.length→c i=(decide (i<a.length)&&!ne i))(hf:∀ i:Nat,i<a.length→f i=iAdd .i64 i 1):Am c f 0<(a.length:Int)↔a≠b:=(dU (p:=fun _=>True) a b d ne hl hne hn hc hf (fun _ _=>trivial)).2
theorem EJ{α:Type}(x:List α)(i:Nat)(d:α)(h:i<x.length):x.getD i d∈x:=by
 rw[BT,Ax h];exact DB h
theorem fN{X:Type}{c:X→Bool}{f:X→X}{p:X→Prop}(ix:X→Int)(n:Int)(hn:n≤9223372036854775806)(hc:∀ x,0≤ix x→ix x≤n→c x=true→ix x<n)(hf:∀ x,ix (f x)=iAdd .i64 (ix x) 1)(hp:∀ x,0≤ix x→ix x≤n→p x){x0:X}(h0:0≤ix x0)(h1:ix x0≤n):LoopOk c f p x0:=by
 refine(IQ (fun x=>0≤ix x∧ix x≤n) (fun x=>(n-ix x).toNat) (fun x hI=>⟨hp x hI.1 hI.2,fun hcc=>?_⟩) ⟨h0,h1⟩).1;have:=hc x hI.1 hI.2 hcc;obtain⟨k1,k2⟩:=hI;have e:=hf x;rw[Cx (by unfold A5;omega)] at e;refine⟨by omega,by omega⟩
theorem cd{c:Int→Bool}{f:Int→Int}{n:Nat}(h:¬ Am c f 0<(n:Int))(hn:(n:Int)≤9223372036854775806)(hc:∀ i:Nat,i≤n→c i=true→i<n)(hf:∀ i:Nat,i<n→f i=iAdd .i64 i 1):∀ i:Nat,i<n→c i=true:=by
 have hv:=v8 (c:=c) (f:=f) n (fun i=>!c i) hn (fun i hi=>by
  by_cases h1:i<n
  · simp[h1]
  · cases h2:c i with
    |false=>simp[h1]
    |true=>exact absurd (hc i hi h2) h1) hf
 rw[hv] at h;have hle:=Ow (fun i=>!c i) n 0
 have e:Di (fun i=>!c i) n 0=n:=by omega
 intro i hi;have:=Z0.1 e i hi;simpa using this
theorem Ov(x:Int×Int×Int×Int):Cc x=ED x:=by
 simp only[Um,lk,Hr,mF,mN,mb,AB,Az,Ca,MO,Bp,CV,CU,Ar,CS,DZ,C9,B8,JT,Ap,Ng,BS,vG,HD,uf,FH,uK,AL,JM];rw[Bool.eq_iff_iff]
 repeat' split
 all_goals simp only[Ai,Cs,CW,E0,Jb,CK,A6,BL,M3,XJ,AV,Hz] at *
 all_goals omega
theorem YA(x:Int×Int×Int×Int):L3 x:=by
 have h:∀ y,F6 y:=fun y=>by rw[Og];trivial
 rw[lR];simp[h]
theorem T0(x:Int×Int×Int×Int):KA x:=by
 have h1:∀ y,Mc y:=fun y=>by rw[my];trivial
 have h2:∀ y,KH y:=fun y=>by rw[mK];trivial
 have h3:∀ y,N5 y:=fun y=>by rw[l7];trivial
 rw[k8];simp[h1,h2,h3]
theorem eY(a b c:Int):Co (a,b,c)=(decide (b≤a)&&decide (a≤c)):=by rw[Hr];simp only[Az,C9,CS]
theorem eg (x):F6 x:=by rw[Og];trivial
def OI(_:Int×Int×Int×Int):Prop:=True
theorem rf(a b:Int×Int×Int×Int)(h:OI a):N3 (a,b)∧(IA (a,b)=true↔a=b):=by
 obtain⟨a0,a1,a2,a3⟩:=a;obtain⟨b0,b1,b2,b3⟩:=b;rw[lM,lq];refine⟨by simp,?_⟩;simp only[AB,Az,MO,CU,Ai,Pu,A6,Ak,AV]
 try (constructor<;>intro h<;>simp_all)
theorem cn(a:Int):iAdd .i64 a 1=IntKind.i64.wrap (a+1):=by simp only[Xf]
theorem bf(k:IntKind)(a:Int):iConv k a=k.wrap a:=by simp only[SH]
theorem dn(a b:Int):iRem a b=a.tmod b:=by simp only[Td]
section
variable {α:Type} {f:α→Int→α×Int} {l:List α} {c:Nat} {m:Int}
def TK(f:α→Int→α×Int)(l:List α)(c:Nat):Prop:=∀ a∈l,∀ m:Int,0≤m→m+c≤2305843009213693952→m≤(f a m).2∧(f a m).2≤m+c
theorem V7(hf:TK f l c)(h0:0≤m)(h1:m+(l.length*c:Nat)≤2305843009213693952)(d:α):∀ i,i≤l.length→m≤(BH f l m i).2∧(BH f l m i).2≤m+(i*c:Nat):=by
 intro i
 induction i with
 |zero=>intro _;rw[U2];simp
 | succ i ih=>
   intro hi;obtain⟨h2,h3⟩:=ih (by omega);rw[OA f l m (by omega) d];have hm:l.getD i d∈l:=EJ l i d (by omega);have hmul:(i+1)*c≤l.length*c:=FK _ (by omega);rw[CY,HJ] at hmul ⊢;obtain⟨h4,h5⟩:=hf _ hm (BH f l m i).2 (by omega) (by omega);exact⟨by omega,by simp only;omega⟩
theorem gH(hf:TK f l c)(h0:0≤m)(h1:m+(l.length*c:Nat)≤2305843009213693952):m≤(Bu f l m).2∧(Bu f l m).2≤m+(l.length*c:Nat):=by
 cases l with
 |nil=>simp[Bu]
 | cons a r=>
   have:=V7 hf h0 h1 a (a::r).length (AH _);rw[Mr] at this;exact this
theorem cK(f:α→Int→α×Int)(l:List α)(m:Int){i:Nat}(hi:i<l.length)(d:α):(Bu f l m).1.getD i d=(f (l.getD i d) (BH f l m i).2).1:=by
 have h1:=OA f l m hi d
 have h2:(BH f l m (i+1)).1.getD i d=(f (l.getD i d) (BH f l m i).2).1:=by
  rw[h1];simp only;rw[BT,List.getElem?_set_self (by rw[Mv];exact hi)];rfl
 rw[← h2,← Mr f l m]
 have:∀ k,i<k→k≤l.length→(BH f l m k).1.getD i d=(BH f l m (i+1)).1.getD i d:=by
  intro k
  induction k with
  |zero=>intro h;omega
  | succ k ih=>
    intro h h';by_cases hk:k=i
    · rw[hk]
    · rw[← ih (by omega) (by omega),OA f l m (by omega) d];simp only[BT];rw[List.getElem?_set_ne hk]
 exact this _ hi (AH _)
theorem bh {C:Int×Int→Bool} {F:Int×Int→Int×Int} {p:Int×Int→Prop} (hl:l.length≤1048576) (d:α)
 (hs:∀ i,i<l.length→p ((BH f l m i).2,(i:Int))∧C ((BH f l m i).2,(i:Int))=true∧F ((BH f l m i).2,(i:Int))=((f (l.getD i d) (BH f l m i).2).2,iAdd .i64 (i:Int) 1))
 (he:p ((Bu f l m).2,(l.length:Int))∧C ((Bu f l m).2,(l.length:Int))=false):LoopOk C F p (m,0)∧Am C F (m,0)=((Bu f l m).2,(l.length:Int)):=by
 have:=Eg (p:=p) (c:=C) (f:=F) l.length (fun i=>((BH f l m i).2,(i:Int))) (x0:=(m,0)) rfl (fun k hk=>by
  obtain⟨h1,h2,h3⟩:=hs k hk;refine⟨h1,h2,?_⟩;rw[h3,OA f l m hk d,Cx (by unfold A5;omega)]
  simp) (by rw[Mr];exact he)
 simp only[Mr] at this
 exact this
end
theorem dQ{i n c:Nat}(h:i<n):i*c+c≤n*c:=by
 have:=FK c (show i+1≤n from h);rw[CY,HJ] at this;exact this
theorem fp{n m c B:Nat}(h:n≤m)(e:m*c=B):n*c≤B:=e▸FK c h
theorem J4{m:Int}(h0:0≤m)(h1:m≤2305843009213693960):IntKind.i64.wrap (m+1)=m+1:=XN (by omega)
theorem RL{α:Type}(x:List α)(d:α){i:Nat}(h:i<x.length):x.take i++[x.getD i d]=x.take (i+1):=by
 rw[SZ,BT,Ax h];rfl
theorem uS{n:Int}(h0:0≤n)(h1:n<256):IntKind.u8.wrap n=n:=by
 simp only[IntKind.wrap,IntKind.bits,IntKind.signed,Lt,AF,AU];omega
theorem eJ{n:Int}(h0:0≤n)(h1:n<256):iConv .u8 n=n:=by rw[SH];exact uS h0 h1
theorem sA{n:Int}(h0:0≤n)(h1:n<9223372036854775808):iConv .i64 n=n:=rG (by unfold A5;omega)
theorem vO{a b:Nat}(ha:a<9223372036854775808)(hb:b<9223372036854775808):iAnd .i64 (a:Int) (b:Int)=((a &&& b:Nat):Int):=by
 have e:(BitVec.ofInt 64 (a:Int) &&& BitVec.ofInt 64 (b:Int)).toNat=a &&& b:=by
  rw[BitVec.ofInt_natCast,BitVec.ofInt_natCast,BitVec.toNat_and,BitVec.toNat_ofNat,BitVec.toNat_ofNat,Nat.mod_eq_of_lt (by omega),Nat.mod_eq_of_lt (by omega)]
 have h:a &&& b≤a:=Nat.and_le_left;rw[fO];show IntKind.i64.wrap ((BitVec.ofInt 64 (a:Int) &&& BitVec.ofInt 64 (b:Int)).toNat:Int)=_;rw[e];exact wrap_i64 (by unfold A5;omega)
theorem u3(a k:Nat)(h:k≤64):iShr .i64 (a:Int) (k:Int)=((a / 2^k:Nat):Int):=by
 rw[fT];show Int.fdiv (a:Int) (2^min (k:Int).toNat 64)=_;rw[Bg,Nat.min_eq_left h,Int.fdiv_eq_ediv_of_nonneg _ (by exact_mod_cast Ge _)];norm_cast
def Bytes(x:List Int):Prop:=∀ a∈x,0≤a∧a<256
theorem Bytes.get{x:List Int}(h:Bytes x)(i:Nat):∃ n:Nat,n<256∧x.getD i 0=(n:Int):=by
 by_cases hi:i<x.length
 · obtain⟨h0,h1⟩:=h _ (EJ x i 0 hi);exact⟨(x.getD i 0).toNat,by omega,by omega⟩
 · exact⟨0,by omega,by rw[BT,Bm (by omega)];rfl⟩
theorem Bytes.of{x:List Int}(h:CT.wf (.sl (.one (.int .u8))) x):Bytes x:=by
 intro a ha;have:=h.2 a ha;simp only[RT.wf,CT.wf] at this
 have h:IntKind.u8.min≤a∧a≤IntKind.u8.max:=by simpa [Lit.wf] using this
 have e1:IntKind.u8.min=0:=by decide
 have e2:IntKind.u8.max=255:=by decide
 rw[e1,e2] at h;omega
def RepOk(x:Int×List Int):Prop:=(0≤x.1∧x.1≤15)∧∀ i,i<x.2.length→(1≤x.2.getD i 0∧x.2.getD i 0≤56)∧(0<i→x.2.getD (i-1) 0<x.2.getD i 0)
theorem RepOk.code{x:Int×List Int}(h:RepOk x)(i:Nat)(hi:i<x.2.length):(i:Int)+1≤x.2.getD i 0:=by
 induction i with
 |zero=>have:=(h.2 0 hi).1;omega
 | succ i ih=>
   have h1:=ih (by omega);have h2:=(h.2 (i+1) hi).2 (by omega);rw[Nat.add_sub_cancel] at h2;omega
theorem RepOk.len{x:Int×List Int}(h:RepOk x):x.2.length≤56:=by
 rcases Bc 56 x.2.length with h1|h1
 · have h2:=h.code 56 h1;have h3:=(h.2 56 h1).1;omega
 · exact h1
section
set_option maxRecDepth 20000
theorem IP{n:Nat}(h:n≤1048577000):AW n:=by unfold AW;exact BU h (by decide)
theorem O9(s:List UInt8)(j:Int):sGet s j=((s.getD j.toNat 0).toNat:Int):=by simp only[fY]
theorem K4(s:List UInt8):sRow s=s.map fun b=>((b.toNat:Nat):Int):=by simp only[gd]
theorem Wu(l:List Int):rowS l=l.map fun n=>UInt8.ofNat n.toNat:=by simp only[fU]
theorem rE(s:List UInt8):rowS (sRow s)=s:=by
 rw[K4,Wu,List.map_map]
 conv=>rhs;rw[← List.map_id s]
 apply List.map_congr_left;intro b _;simp
theorem bX(a b:List UInt8):sRow (a++b)=sRow a++sRow b:=by rw[K4,K4,K4,EU]
theorem b8(a:List UInt8):(sRow a).length=a.length:=by rw[K4,A0]
def A4:List UInt8→Int→List (List UInt8)
 |[],_=>[[]]
 |b::r,c=>if (b.toNat:Int)=c then []::A4 r c else match A4 r c with|[]=>[[b]]|w::ws=>(b::w)::ws
theorem Mi:∀ (s:List UInt8) (c:Int),(∀ b∈s,(b.toNat:Int)≠c)→A4 s c=[s]
 |[],_,_=>rfl
 | b::r,c,h=>by
   have e:=Mi r c (fun x hx=>h x (by simp[hx]))
   simp[A4,h b (by simp),e]
theorem OL:∀ (a:List UInt8) (b:UInt8) (r:List UInt8) (c:Int),(∀ x∈a,(x.toNat:Int)≠c)→(b.toNat:Int)=c→A4 (a++b::r) c=a::A4 r c
 |[],b,r,c,_,h=>by simp[A4,h]
 | x::a,b,r,c,ha,h=>by
   have e:=OL a b r c (fun y hy=>ha y (by simp[hy])) h
   simp[A4,ha x (by simp),e]
theorem ah{s:List UInt8}{F I:Nat}(h:F≤I)(hI:I<s.length):s.drop F=(s.drop F).take (I-F)++s.getD I 0::s.drop (I+1):=by
 rw[BT,Ax hI,Dh]
 conv=>lhs;rw[← List.take_append_drop (I-F) (s.drop F)]
 rw[List.drop_drop,show F+(I-F)=I by omega,JR hI]
theorem Ms(s:List UInt8)(c:Int)(h:s.length≤1048576):Iu (s,c)∧Al (s,c)=A4 s c:=by
 rw[kU,kC]
 have key:=IQ (c:=NJ (s,c)) (f:=Qy (s,c)) (p:=TX (s,c))
  (fun st=>∃ (out:List (List UInt8)) (F I:Nat),st=(out,(F:Int),(I:Int))∧out.length≤I∧((F≤I∧I≤s.length∧(∀ b∈(s.drop F).take (I-F),(b.toNat:Int)≠c)∧A4 s c=out++A4 (s.drop F) c)∨(I=s.length+1∧A4 s c=out)))
  (fun st=>s.length+1-st.2.2.toNat) (fun st hI=>?_) (x0:=([],0,0)) ⟨[],0,0,rfl,by simp,.inl ⟨AH _,Ge _,by simp,rfl⟩⟩
 · obtain⟨k1,⟨out,F,I,e,_,hh⟩,k2⟩:=key;refine⟨k1,?_⟩;rw[e] at k2 ⊢;simp only[NJ,CS,Ap,BL] at k2;rcases hh with⟨_,h1,_⟩|⟨_,h1⟩
   · omega
   · exact h1.symm
 · obtain⟨out,F,I,rfl,hl,hh⟩:=hI;simp only[NJ,Qy,TX,CS,CV,Ap,AL,Bg,HD,FH,O9,Ca,Bp,A6,BL,Ay,AJ]
   have ha:iAdd .i64 (I:Int) 1=((I+1:Nat):Int):=by
    rw[Cx (by unfold A5;rcases hh with⟨_,h1,_⟩|⟨h1,_⟩<;>omega)];rfl
   rw[ha];rcases hh with⟨hFI,hIl,hfree,hs⟩|⟨hI1,hs⟩
   · refine⟨⟨fun _=>⟨⟨fun _=>trivial,fun hne=>⟨by omega,by omega⟩⟩,fun _=>⟨⟨⟨by omega,by omega⟩,by omega,by omega⟩,IP (by omega)⟩,fun _=>trivial⟩,fun _=>trivial⟩,fun _=>?_⟩;by_cases hlt:I<s.length
     · have hne:decide ((I:Int)=(s.length:Int))=false:=C5 (by omega);rw[hne,Bool.false_or];by_cases hc:((s.getD I 0).toNat:Int)=c
       · simp only[hc,decide_true,AE];refine⟨⟨_,I+1,I+1,rfl,by simp;omega,.inl ⟨AH _,by omega,by simp,?_⟩⟩,by simp only[Bg];omega⟩;rw[hs]
         conv=>lhs;rw[ah hFI hlt,OL _ _ _ _ hfree hc]
         simp
       · simp only[hc,decide_false,AF,AU];refine⟨⟨_,F,I+1,rfl,by omega,.inl ⟨by omega,by omega,fun b hb=>?_,hs⟩⟩,by simp only[Bg];omega⟩
         have e:(s.drop F).take (I+1-F)=(s.drop F).take (I-F)++[s.getD I 0]:=by
          rw[show I+1-F=(I-F)+1 by omega,SZ,I3,show F+(I-F)=I by omega,Ax hlt,BT,Ax hlt];rfl
         rw[e,B6,List.mem_singleton] at hb;rcases hb with hb|rfl
         · exact hfree b hb
         · exact hc
     · have e:I=s.length:=by omega
       subst e;simp only[decide_true,Bool.true_or,AE];refine⟨⟨_,s.length+1,s.length+1,rfl,by simp;omega,.inr ⟨rfl,?_⟩⟩,by simp only[Bg];omega⟩;have e2:(s.drop F).take (s.length-F)=s.drop F:=Ll (by rw[Pq];exact AH _);rw[e2] at hfree ⊢;rw[hs,Mi _ _ hfree]
   · subst hI1;refine⟨⟨fun hh=>by omega,fun _=>trivial⟩,fun hh=>by omega⟩
theorem od:A4 RQ 32=Cp:=by decide
theorem aN:QW PUnit.unit∧Mb PUnit.unit=Cp:=by
 rw[mg,lZ];have:=Ms RQ 32 (by decide);rw[od] at this;exact this
theorem QX:Bo ([97,32,98,32,99,32,100,32,101,32,102,32,103,32,104,32,105,32,106,32,107,32,108,32,109,32,110,32,111,32,112,32,113,32,114,32,115,32,116,32,117,32,118,32,119,32,120,32,121,32,122,32,49,32,50,32,51,32,52,32,53,32,54,32,55,32,56,32,57,32,48,32,101,110,116,101,114,32,101,115,99,32,98,97,99,107,32,116,97,98,32,115,112,97,99,101,32,109,105,110,117,115,32,101,113,117,97,108,32,108,101,102,116,32,114,105,103,104,116,32,117,112,32,100,111,119,110,32,102,49,32,102,50,32,102,51,32,102,52,32,102,53,32,102,54,32,102,55,32,102,56,32,102,57],[32])=Cp:=by
 rw[QR]
 have e:Lib.split RQ [32]=Cp:=by kernel_rfl
 exact e
theorem Zt:Ix ([97,32,98,32,99,32,100,32,101,32,102,32,103,32,104,32,105,32,106,32,107,32,108,32,109,32,110,32,111,32,112,32,113,32,114,32,115,32,116,32,117,32,118,32,119,32,120,32,121,32,122,32,49,32,50,32,51,32,52,32,53,32,54,32,55,32,56,32,57,32,48,32,101,110,116,101,114,32,101,115,99,32,98,97,99,107,32,116,97,98,32,115,112,97,99,101,32,109,105,110,117,115,32,101,113,117,97,108,32,108,101,102,116,32,114,105,103,104,116,32,117,112,32,100,111,119,110,32,102,49,32,102,50,32,102,51,32,102,52,32,102,53,32,102,54,32,102,55,32,102,56,32,102,57],[32])=True:=by
 rw[QP]
 have e:RQ.length<4294967281∧1≤([32]:List UInt8).length:=by decide
 exact eq_true e
theorem Oj(k:Int):Jt k∧KB k∧Hq k=BE k∧(BE k).length≤5:=by
 obtain⟨n1,n2⟩:=aN;have hl:Cp.length=56:=rfl
 have hw:∀ w∈Cp,w.length≤5:=by decide
 rw[lE,lC,QS,lG,n2,QX,Zt];simp only[Og,Hr,AB,Az,Ca,Bp,C9,CS,Ar,DZ,BS,AL,hl];by_cases h:1≤k∧k≤56
 · have e:iSub .i64 k 1=k-1:=VI (by unfold A5;omega);rw[e];have d1:decide (1≤k)=true:=Cq h.1;have d2:decide (k≤56)=true:=Cq h.2;have d3:decide (k<1)=false:=C5 (by omega);have d4:decide (56<k)=false:=C5 (by omega);simp only[d1,d2,d3,d4];refine⟨⟨trivial,fun h=>(by cases h),fun _=>⟨n1,⟨by omega,by omega⟩,by omega⟩⟩,⟨fun h=>(by cases h),fun _=>⟨trivial,⟨by omega,by omega⟩,by omega⟩⟩,rfl,?_⟩;show (Cp.getD (k-1).toNat []).length≤5;rw[BT,Ax (show (k-1).toNat<Cp.length by omega)];exact hw _ (DB _)
 · have d:(decide (1≤k)&&decide (k≤56))=false:=by
    rw[Jb,BL,BL];omega
   have d':(decide (k<1)||decide (56<k))=true:=by
    rw[Cs,A6,A6];omega
   simp only[d,d'];exact⟨⟨trivial,fun _=>trivial,fun h=>(by cases h)⟩,⟨fun _=>trivial,fun h=>(by cases h)⟩,rfl,by simp⟩
def XZ(m:Int)(k:Nat):Bool:=iEq (iAnd .i64 (iShr .i64 m (k:Int)) 1) 1
def fm(m:Int):Nat→List UInt8
 |0=>[]
 |k+1=>if XZ m k then fm m k++[([67,83,65,71]:List UInt8).getD k 0] else fm m k
theorem PB(m:Int):∀ k,(fm m k).length≤k
 |0=>AH _
 | k+1=>by
   unfold fm
   split
   · simp;exact PB m k
   · exact Nat.le_succ_of_le (PB m k)
theorem VJ(m:Int):Jp m∧Jq m∧Fu m=B3 m∧B3 m=(if 1≤m∧m≤15 then fm m 4 else []):=by
 rw[ku,ki,km,ky];by_cases h:1≤m∧m≤15
 · have d1:Co (m,1,15)=true:=by simp only[Hr,Az,C9,CS];simp[h.1,h.2]
   have d2:bOr (iLt m 1) (iGt m 15)=false:=by simp only[Ca,Ar,DZ,CK,BL];omega
   have hk:∀ k:Nat,k<4→k=0∨k=1∨k=2∨k=3:=fun k hk=>by omega
   have ad:∀ k:Nat,k<4→iAdd .i64 (k:Int) 1=((k+1:Nat):Int):=fun k hk=>by rw[Cx (by unfold A5;omega)];rfl
   have sub:∀ k:Nat,k<4→lSub ([67,83,65,71]:List UInt8) k (k+1)=[([67,83,65,71]:List UInt8).getD k 0]:=fun k h4=>by
    rw[HD];rcases hk k h4 with rfl|rfl|rfl|rfl<;>rfl
   have gt:∀ k:Nat,k<4→lGet ([[67],[83],[65],[71]]:List (List UInt8)) k []=[([67,83,65,71]:List UInt8).getD k 0]:=fun k h4=>by
    rw[BS];rcases hk k h4 with rfl|rfl|rfl|rfl<;>rfl
   have L1:=Eg (c:=Ku m) (f:=NF m) (p:=LO m) 4 (fun k=>(fm m k,(k:Int))) (x0:=([],0)) rfl (fun k h4=>by
    have i4:iLt (k:Int) 4=true:=by rw[Ar];exact Cq (by omega)
    have len:=PB m k;simp only[Ku,NF,LO,d1,i4,ad k h4,sub k h4,Az,CG,Og,AL,Bg,Ay,AJ];refine⟨⟨⟨fun _=>trivial,fun h=>(by cases h)⟩,fun _=>⟨by omega,fun _=>⟨⟨⟨by omega,by omega⟩,by omega,by omega⟩,by omega⟩,fun _=>trivial⟩,fun h=>(by cases h)⟩,trivial,?_⟩;rw[fm,Bp,JM]
    rfl) (by
    have i4:iLt ((4:Nat):Int) 4=false:=by rw[Ar];rfl
    simp only[Ku,LO,i4,Az,Lt]
    exact⟨⟨⟨fun h=>(by cases h),fun _=>trivial⟩,fun h=>(by cases h),fun _=>trivial⟩,trivial⟩)
   have L2:=Eg (c:=ND) (f:=Qt m) (p:=Qv m) 4 (fun k=>(fm m k,(k:Int))) (x0:=([],0)) rfl (fun k h4=>by
    have i4:iLt (k:Int) (lLen ([[67],[83],[65],[71]]:List (List UInt8)))=true:=by rw[Ar,Ap];exact Cq (by simp;omega)
    have len:=PB m k;simp only[ND,Qt,Qv,i4,ad k h4,gt k h4,oz,ot,AL,Bg,Ay,AJ];refine⟨⟨fun _=>⟨⟨by omega,by omega⟩,by omega,by omega,fun _=>by omega,fun _=>trivial⟩,fun h=>(by cases h)⟩,trivial,?_⟩;rw[fm,Bp,JM]
    rfl) (by
    have i4:iLt ((4:Nat):Int) (lLen ([[67],[83],[65],[71]]:List (List UInt8)))=false:=by rw[Ar,Ap];rfl
    simp only[ND,Qv,i4]
    exact⟨⟨fun h=>(by cases h),fun _=>trivial⟩,trivial⟩)
   rw[L1.2,L2.2,d2];exact⟨L1.1,⟨fun h=>(by cases h),fun _=>L2.1⟩,by rw[Bp];rfl,by rw[Ab h]⟩
 · have d1:Co (m,1,15)=false:=by
    simp only[Hr,Az,C9,CS,Jb,BL];omega
   have d2:bOr (iLt m 1) (iGt m 15)=true:=by simp only[Ca,Ar,DZ,Cs,A6];omega
   have L1:=Eg (c:=Ku m) (f:=NF m) (p:=LO m) 0 (fun _=>([],0)) (x0:=([],0)) rfl (fun k h=>by omega) (by
    simp only[Ku,LO,d1,Az,Bool.and_false,Og]
    exact⟨⟨⟨fun _=>trivial,fun _=>trivial⟩,fun h=>(by cases h),fun _=>trivial⟩,trivial⟩)
   rw[L1.2,d2];exact⟨L1.1,⟨fun _=>trivial,fun h=>(by cases h)⟩,by rw[Bp];rfl,by rw[Ad h]⟩
theorem Sf(m:Int):Jp m∧Jq m∧Fu m=B3 m∧(B3 m).length≤4:=by
 obtain⟨a,b,c,d⟩:=VJ m;refine⟨a,b,c,?_⟩;rw[d];split
 · exact PB m 4
 · simp
theorem bg(sep x:List UInt8):∀ (l:List (List UInt8)),AQ (l++[x]) sep=if l=[] then x else AQ l sep++sep++x
 |[]=>by simp[AQ,List.intercalate]
 |[a]=>by simp[AQ,List.intercalate]
 | a::b::r=>by
   have:=bg sep x (b::r)
   simp only[AQ,List.intercalate,BW,List.intersperse,FJ,reduceCtorEq,AU] at this ⊢
   rw[this]
   simp
theorem OX(sep:List UInt8)(W:Nat):∀ (l:List (List UInt8)),(∀ w∈l,w.length+sep.length≤W)→(AQ l sep).length≤l.length*W
 |[],_=>by simp[AQ,List.intercalate]
 | [a],h=>by
   have:=h a (by simp)
   simp[AQ,List.intercalate];omega
 | a::b::r,h=>by
   have i:=OX sep W (b::r) (fun w hw=>h w (by simp[hw]))
   have:=h a (by simp)
   simp only[AQ,List.intercalate,List.intersperse,FJ,Cz,Ay] at i ⊢
   rw[CY (r.length+1) 1 W]
   omega
theorem bt(xs:List (List UInt8))(sep:List UInt8)(hl:xs.length≤1048576)(hw:∀ w∈xs,w.length+sep.length≤1000):L4 (xs,sep)∧KD (xs,sep)=AQ xs sep:=by
 rw[L4,KD]
 have tl:∀ k,(AQ (xs.take k) sep).length≤1048576000:=fun k=>by
  have h1:=OX sep 1000 (xs.take k) (fun w hw'=>hw w (La hw'))
  have h2:(xs.take k).length≤1048576:=by rw[HL];omega
  exact BU h1 (Nat.mul_le_mul h2 (AH _))
 have L:=Eg (c:=NP (xs,sep)) (f:=QA (xs,sep)) (p:=QI (xs,sep)) xs.length (fun k=>(sRow (AQ (xs.take k) sep),(k:Int))) (x0:=([],0)) (by simp[AQ,List.intercalate,K4]) (fun k hk=>by
  have i1:iLt (k:Int) (lLen xs)=true:=by rw[Ar,Ap];exact Cq (by omega)
  have ad:iAdd .i64 (k:Int) 1=((k+1:Nat):Int):=by rw[Cx (by unfold A5;omega)];rfl
  have gk:lGet xs k []=xs.getD k []:=BS _ _ _
  have hwk:(xs.getD k []).length+sep.length≤1000:=by
   rw[BT,Ax hk];exact hw _ (DB _)
  have tk:=tl k
  have sn:AQ (xs.take (k+1)) sep=if xs.take k=[] then xs.getD k [] else AQ (xs.take k) sep++sep++xs.getD k []:=by
   rw[← RL xs [] hk,bg]
  simp only[NP,QA,QI,i1,ad,gk,FH,AL,Bg,b8,Cz];refine⟨⟨fun _=>⟨⟨fun _=>IP (by omega),fun _=>trivial⟩,⟨by omega,by omega⟩,hk,?_⟩,fun h=>(by cases h)⟩,trivial,?_⟩
  · refine IP ?_;rw[Bp];split<;>simp only[Cz,b8]<;>omega
  · rw[sn,Bp,DZ];rcases K9 k with rfl|h0
    · simp[K4,AQ,List.intercalate]
    · have h1:xs.take k≠[]:=fun e=>by
       have:=congrArg List.length e;rw[HL,AJ] at this;omega
      have h2:decide ((0:Int)<(k:Int))=true:=Cq (by omega)
      rw[Ad h1,h2,Ab rfl,bX,bX]) (by
  have i1:iLt (xs.length:Int) (lLen xs)=false:=by rw[Ar,Ap];exact C5 (by omega)
  simp only[NP,QI,i1]
  exact⟨⟨fun h=>(by cases h),fun _=>trivial⟩,trivial⟩)
 rw[L.2,I7,rE];exact⟨L.1,rfl⟩
theorem cJ(xs:List (List UInt8))(sep:List UInt8)(hl:xs.length≤1048576)(hw:∀ w∈xs,w.length+sep.length≤100):L4 (xs,sep)∧KD (xs,sep)=AQ xs sep:=bt xs sep hl fun w h=>BU (hw w h) (by decide)
end
def US(x:List (Int×Int×Int×Int)):Prop:=x.length≤1048576∧∀ a∈x,OI a
def Ot(x:List (List (Int×Int×Int×Int))):Prop:=x.length≤1048576∧∀ a∈x,US a
def GU(x:Int×(List (List (Int×Int×Int×Int)))):Prop:=Ot x.2∧True
theorem oY(a b:List (Int×Int×Int×Int))(h:US a):NU (a,b)∧(Iv (a,b)=true↔a=b):=by
 rw[kL,kW];obtain⟨h1,h2⟩:=h
 have hY:∀ i:Nat,i<a.length→N3 (((lGet a i (0,0,0,0)).1,(lGet a i (0,0,0,0)).2.1,(lGet a i (0,0,0,0)).2.2.1,(lGet a i (0,0,0,0)).2.2.2),((lGet b i (0,0,0,0)).1,(lGet b i (0,0,0,0)).2.1,(lGet b i (0,0,0,0)).2.2.1,(lGet b i (0,0,0,0)).2.2.2))∧(IA (((lGet a i (0,0,0,0)).1,(lGet a i (0,0,0,0)).2.1,(lGet a i (0,0,0,0)).2.2.1,(lGet a i (0,0,0,0)).2.2.2),((lGet b i (0,0,0,0)).1,(lGet b i (0,0,0,0)).2.1,(lGet b i (0,0,0,0)).2.2.1,(lGet b i (0,0,0,0)).2.2.2))=true↔a.getD i (0,0,0,0)=b.getD i (0,0,0,0)):=fun i hi=>by
  have:=rf (a.getD i (0,0,0,0)) (b.getD i (0,0,0,0)) (h2 _ (EJ a i (0,0,0,0) hi));rw[BS,BS];exact this
 by_cases hl:a.length=b.length
 · refine⟨⟨fun _=>trivial,fun _=>hZ a b (0,0,0,0) (fun i=>bNot (IA (((lGet a i (0,0,0,0)).1,(lGet a i (0,0,0,0)).2.1,(lGet a i (0,0,0,0)).2.2.1,(lGet a i (0,0,0,0)).2.2.2),((lGet b i (0,0,0,0)).1,(lGet b i (0,0,0,0)).2.1,(lGet b i (0,0,0,0)).2.2.1,(lGet b i (0,0,0,0)).2.2.2)))) hl (fun i hi=>by simp only[AB,E0,(hY i hi).2]) (by omega) (fun i hi=>by simp only[Az,Ar,Ap,AL,AB,Bg,S0]) (fun i hi=>rfl) (fun i hi=>?_)⟩,?_⟩
   · simp only[Ar,Ap,AL,A6,Bg];exact⟨fun hh=>⟨by omega,by omega,by omega,by omega,(hY i (by omega)).1⟩,fun _=>trivial⟩
   · have hv:=iC (c:=fun i:Int=>bAnd (iLt i (lLen a)) (bNot ((fun i=>bNot (IA (((lGet a i (0,0,0,0)).1,(lGet a i (0,0,0,0)).2.1,(lGet a i (0,0,0,0)).2.2.1,(lGet a i (0,0,0,0)).2.2.2),((lGet b i (0,0,0,0)).1,(lGet b i (0,0,0,0)).2.1,(lGet b i (0,0,0,0)).2.2.1,(lGet b i (0,0,0,0)).2.2.2)))) i.toNat))) (f:=fun i=>iAdd .i64 i 1) a b (0,0,0,0) (fun i=>bNot (IA (((lGet a i (0,0,0,0)).1,(lGet a i (0,0,0,0)).2.1,(lGet a i (0,0,0,0)).2.2.1,(lGet a i (0,0,0,0)).2.2.2),((lGet b i (0,0,0,0)).1,(lGet b i (0,0,0,0)).2.1,(lGet b i (0,0,0,0)).2.2.1,(lGet b i (0,0,0,0)).2.2.2)))) hl (fun i hi=>by simp only[AB,E0,(hY i hi).2]) (by omega) (fun i hi=>by simp only[Az,Ar,Ap,AB,Bg,S0]) (fun i hi=>rfl)
     have e1:bNot (iNe (lLen a) (lLen b))=true:=by rw[AB,CU,Ap,Ap,hl];simp
     rw[e1,Az true,JY,AB (iLt _ (lLen a)),Ar _ (lLen a)];simp only[← AL,Ap] at hv ⊢;simp only[CW,BL];rw[hv];simp
 · have e1:bNot (iNe (lLen a) (lLen b))=false:=by rw[AB,CU,Ap,Ap];simp;omega
   refine⟨⟨fun _=>trivial,fun h=>?_⟩,?_⟩
   · rw[AB] at e1;rw[h] at e1;cases e1
   · rw[e1,Az,Lt];constructor
     · intro h;cases h
     · intro e;subst e;exact absurd rfl hl
theorem oD(a b:List (List (Int×Int×Int×Int)))(h:Ot a):QE (a,b)∧(QK (a,b)=true↔a=b):=by
 rw[kh,kx];obtain⟨h1,h2⟩:=h
 have hY:∀ i:Nat,i<a.length→NU ((lGet a i []),(lGet b i []))∧(Iv ((lGet a i []),(lGet b i []))=true↔a.getD i []=b.getD i []):=fun i hi=>by
  have:=oY (a.getD i []) (b.getD i []) (h2 _ (EJ a i [] hi));rw[BS,BS];exact this
 by_cases hl:a.length=b.length
 · refine⟨⟨fun _=>trivial,fun _=>hZ a b [] (fun i=>bNot (Iv ((lGet a i []),(lGet b i [])))) hl (fun i hi=>by simp only[AB,E0,(hY i hi).2]) (by omega) (fun i hi=>by simp only[Az,Ar,Ap,AL,AB,Bg,S0]) (fun i hi=>rfl) (fun i hi=>?_)⟩,?_⟩
   · simp only[Ar,Ap,AL,A6,Bg];exact⟨fun hh=>⟨by omega,by omega,by omega,by omega,(hY i (by omega)).1⟩,fun _=>trivial⟩
   · have hv:=iC (c:=fun i:Int=>bAnd (iLt i (lLen a)) (bNot ((fun i=>bNot (Iv ((lGet a i []),(lGet b i [])))) i.toNat))) (f:=fun i=>iAdd .i64 i 1) a b [] (fun i=>bNot (Iv ((lGet a i []),(lGet b i [])))) hl (fun i hi=>by simp only[AB,E0,(hY i hi).2]) (by omega) (fun i hi=>by simp only[Az,Ar,Ap,AB,Bg,S0]) (fun i hi=>rfl)
     have e1:bNot (iNe (lLen a) (lLen b))=true:=by rw[AB,CU,Ap,Ap,hl];simp
     rw[e1,Az true,JY,AB (iLt _ (lLen a)),Ar _ (lLen a)];simp only[← AL,Ap] at hv ⊢;simp only[CW,BL];rw[hv];simp
 · have e1:bNot (iNe (lLen a) (lLen b))=false:=by rw[AB,CU,Ap,Ap];simp;omega
   refine⟨⟨fun _=>trivial,fun h=>?_⟩,?_⟩
   · rw[AB] at e1;rw[h] at e1;cases e1
   · rw[e1,Az,Lt];constructor
     · intro h;cases h
     · intro e;subst e;exact absurd rfl hl
theorem su(a b:Int×(List (List (Int×Int×Int×Int))))(h:GU a):N2 (a,b)∧(IB (a,b)=true↔a=b):=by
 obtain⟨a0,a1⟩:=a;obtain⟨b0,b1⟩:=b;have k0:=oD a1 b1 (by unfold GU at h;exact h.1);rw[lQ,lS];refine⟨by simp[k0.1,k0.2],?_⟩;simp only[k0.1,k0.2,AB,Az,MO,CU,Ai,Pu,A6,Ak,AV]
 try (constructor<;>intro h<;>simp_all)
theorem Z7(x:Int×List (List (Int×Int×Int×Int))):KE x=E6 x:=by
 rw[lL,Uk,eY,eY]
 have inner:∀ (i a n:Int) (A B:Bool),bNot (bOr A (bSel (iEq a 1) (bOr (iEq i 0) B) B))=bNot (bOr A (bSel (iEq i 0) (bOr (iEq a 1) B) B)):=by
  intro i a n A B;simp only[AB,Ca,Bp,CV];by_cases h1:a=1<;>by_cases h2:i=0<;>simp[h1,h2]
 simp only[Ov,fun i a A B=>inner i a 0 A B];generalize bNot (iLt (Am _ _ _) (lLen x.2))=L;rw[Bool.eq_iff_iff];simp only[Az,AB,Ca,Ar,DZ,Ap,Ai,Cs,CW,E0,Jb,CK,A6,BL,M3,XJ,AV,Hz];cases L<;>simp<;>omega
theorem Q8(x:Int×List (List (Int×Int×Int×Int)))(h:GU x):NY x∧NZ x:=by
 obtain⟨k,x⟩:=x;have h:Ot x:=h.1;rw[lv,lB]
 have inl:∀ i:Int,0≤i→i<x.length→(lGet x (iNat i) []).length≤1048576:=fun i h0 hi=>by
  rw[BS,AL];exact(h.2 _ (EJ x i.toNat [] (by omega))).1
 refine⟨⟨?_,fun _=>trivial,fun _=>⟨eg _,fun _=>eg _,fun _=>trivial⟩⟩,fun _=>trivial,fun _=>?_⟩
 all_goals
  refine fN (fun st=>st) x.length (by have:=h.1;omega) (fun st _ _ hc=>?_) (fun st=>rfl) (fun st h0 h1=>?_) (by simp) (by simp)
  · rw[Az,Ar st,Ap,Ai,A6] at hc
    exact hc.1
  · refine⟨fun hlt=>?_,fun _=>trivial⟩
    rw[Ar,Ap,A6] at hlt;have hlt:st<(x.length:Int):=hlt
    have h3:iNat st<x.length:=by rw[AL];omega
    have hl:=inl st h0 hlt;refine⟨⟨h0,hlt⟩,h3,fun _=>trivial,fun _=>?_⟩;refine fN (fun st=>st) (lGet x (iNat st) []).length (by omega) (fun j _ _ hc=>?_) (fun st=>rfl) (fun j j0 j1=>?_) (by simp) (by simp)
    · rw[Az,Ar j,Ap,Ai,A6] at hc;exact hc.1
    · have fin:iLt j (lLen (lGet x (iNat st) []))=true→j<((lGet x (iNat st) []).length:Int)∧iNat j<(lGet x (iNat st) []).length:=fun hj=>by
       rw[Ar,Ap,A6] at hj;exact⟨hj,by rw[AL];omega⟩
      first
       |exact⟨⟨h0,hlt⟩,h3,fun hj=>⟨⟨h0,hlt⟩,h3,⟨j0,(fin hj).1⟩,(fin hj).2,YA _⟩,fun _=>trivial⟩
       |exact⟨fun hj=>⟨⟨j0,(fin hj).1⟩,(fin hj).2,T0 _⟩,fun _=>trivial⟩
structure MapOk (k:Int) (x:List (List (Int×Int×Int×Int))):Prop where
 k1:1≤k
 k2:k≤32
 l1:1≤x.length
 l2:x.length≤4
 row:∀ i:Nat,i<x.length→((x.getD i []).length:Int)=k
 act:∀ i j:Nat,i<x.length→j<(x.getD i []).length→ED ((x.getD i []).getD j (0,0,0,0))=true∧(i=0→((x.getD i []).getD j (0,0,0,0)).1≠1)∧(((x.getD i []).getD j (0,0,0,0)).1≠9→((x.getD i []).getD j (0,0,0,0)).2.2.2<x.length)
theorem UP{k:Int}{x:List (List (Int×Int×Int×Int))}(hs:GU (k,x))(h:E6 (k,x)=true):MapOk k x:=by
 rw[Uk,Az,Ai] at h;obtain⟨h1,h2⟩:=h;simp only[AB,Ca,Ar,DZ,Ap,Ai,Cs,CW,E0,Jb,CK,A6,BL,M3,XJ,AV,Hz] at h1;rw[AB,CW,Ar _ (lLen _),Ap,BL] at h2;have hs:Ot x:=hs.1
 have all:=cd h2 (by show (x.length:Int)≤_;omega) (fun i hi hc=>by
  rw[Az,Ar (i:Int),Ap,Ai,A6] at hc
  have:=hc.1;show i<x.length;simp only at this;omega) (fun i hi=>rfl)
 have row:∀ i:Nat,i<x.length→((x.getD i []).length:Int)=k∧∀ j:Nat,j<(x.getD i []).length→ED ((x.getD i []).getD j (0,0,0,0))=true∧(i=0→((x.getD i []).getD j (0,0,0,0)).1≠1)∧(((x.getD i []).getD j (0,0,0,0)).1≠9→((x.getD i []).getD j (0,0,0,0)).2.2.2<x.length):=by
  intro i hi;have hc:=all i hi;rw[Az,Az,Ai,Ai] at hc;obtain⟨_,c1,c2⟩:=hc;simp only[AB,CU,Ap,BS,AL,Bg,Pu,A6] at c1;rw[AB,CW,Ar _ (lLen _),Ap,BL] at c2;have hli:=(hs.2 _ (EJ x i [] hi)).1
  have hin:(lGet x (iNat (i:Int)) [])=x.getD i []:=by rw[BS,AL,Bg]
  have all2:=cd c2 (by show ((lGet x (iNat (i:Int)) []).length:Int)≤_;rw[hin];omega) (fun j hj hc=>by
   simp only[Az,Ar,Ap,Ai,A6] at hc
   have:=hc.1;show j<(lGet x (iNat (i:Int)) []).length;omega) (fun j hj=>rfl)
  refine⟨c1,fun j hj=>?_⟩;have hc:=all2 j (by show j<(lGet x (iNat (i:Int)) []).length;rw[hin];exact hj);simp only[hin] at hc;simp only[Az,AB,Ca,Bp,CV,CU,C9,Ap,BS,AL,Bg,Ai,CW,CK,E0] at hc;obtain⟨_,d1,d2⟩:=hc;refine⟨d1,fun hz=>?_,fun h9=>?_⟩
  · subst hz;simp only[Int.ofNat_zero,Xy,decide_true,AE,CK,BL] at d2;exact d2.1
  · split at d2
    · simp only[CK,Jb,BL,E0,A6] at d2;rcases d2.2 with d2|d2
      · exact absurd d2 h9
      · omega
    · simp only[Jb,BL,E0,A6] at d2;rcases d2 with d2|d2
      · exact absurd d2 h9
      · omega
 exact⟨by omega,by omega,by omega,by omega,fun i hi=>(row i hi).1,fun i j hi hj=>(row i hi).2 j hj⟩
section
set_option maxRecDepth 20000
def FC(a:Int×Int×Int×Int)(k:Int):(Int×Int×Int×Int)×Int:=((k,(IntKind.i64.wrap (k+1)),(IntKind.i64.wrap ((IntKind.i64.wrap (k+1))+1)),(IntKind.i64.wrap ((IntKind.i64.wrap ((IntKind.i64.wrap (k+1))+1))+1))),(IntKind.i64.wrap ((IntKind.i64.wrap ((IntKind.i64.wrap ((IntKind.i64.wrap (k+1))+1))+1))+1)))
theorem aH(x:List (Int×Int×Int×Int))(h:US x)(m:Int)(h0:0≤m)(h1:m+4194304≤2305843009213693952):Qu x∧(m≤(Fs x m).2∧(Fs x m).2≤m+4194304)∧NL ((Fs x m).1,m)∧Ft ((Fs x m).1,m)=(Fs x m).2:=by
 have hl:x.length≤1048576:=h.1
 have hU:TK FC x 4:=by
  intro a ha k k0 k1;have e0:IntKind.i64.wrap (k+1)=k+1:=J4 (by omega) (by omega);have e1:IntKind.i64.wrap ((k+1)+1)=(k+1)+1:=J4 (by omega) (by omega);have e2:IntKind.i64.wrap (((k+1)+1)+1)=((k+1)+1)+1:=J4 (by omega) (by omega);have e3:IntKind.i64.wrap ((((k+1)+1)+1)+1)=(((k+1)+1)+1)+1:=J4 (by omega) (by omega)
  have ee:(FC a k).2=((((k+1)+1)+1)+1):=by simp only[FC,e0,e1,e2,e3]
  rw[ee];omega
 have hB:x.length*4≤4194304:=fp hl (by decide);have up:=gH (m:=m) hU h0 (by omega)
 have hmg:Fs x m=Bu FC x m:=by unfold FC;rw[Yg];rfl
 rw[hmg];have hL:=JJ FC x m
 have hg:∀ i,i<x.length→(Bu FC x m).1.getD i (0,0,0,0)=(FC (x.getD i (0,0,0,0)) (BH FC x m i).2).1:=fun i hi=>cK _ _ _ hi _
 have hok:Qu x:=by rw[je];exact⟨BU h.1 (by decide),fun a ha=>⟨trivial,trivial,trivial,trivial⟩⟩
 rw[jT,jS];dsimp only;generalize (Bu FC x m).1=L at hL hg ⊢
 have key:LoopOk (fun(x0:(Int×Int))=>(bAnd (iLt x0.2 (lLen L)) (bAnd (bNot (iNe (lGet L (iNat x0.2) (0,0,0,0)).1 x0.1)) (bAnd (bNot (iNe (lGet L (iNat x0.2) (0,0,0,0)).2.1 (iAdd .i64 x0.1 1))) (bAnd (bNot (iNe (lGet L (iNat x0.2) (0,0,0,0)).2.2.1 (iAdd .i64 (iAdd .i64 x0.1 1) 1))) (bNot (iNe (lGet L (iNat x0.2) (0,0,0,0)).2.2.2 (iAdd .i64 (iAdd .i64 (iAdd .i64 x0.1 1) 1) 1)))))))) (fun(x0:(Int×Int))=>((iAdd .i64 (iAdd .i64 (iAdd .i64 (iAdd .i64 x0.1 1) 1) 1) 1),(iAdd .i64 x0.2 1))) (fun(x0:(Int×Int))=>(((iLt x0.2 (lLen L))=true→((((0:Int)≤x0.2)∧(x0.2<(((List.length L):Int))))∧(((iNat x0.2)<(List.length L))∧(((iNe (lGet L (iNat x0.2) (0,0,0,0)).1 x0.1)=true→True)∧((iNe (lGet L (iNat x0.2) (0,0,0,0)).1 x0.1)=false→((((0:Int)≤x0.2)∧(x0.2<(((List.length L):Int))))∧(((iNat x0.2)<(List.length L))∧(((iNe (lGet L (iNat x0.2) (0,0,0,0)).2.1 (iAdd .i64 x0.1 1))=true→True)∧((iNe (lGet L (iNat x0.2) (0,0,0,0)).2.1 (iAdd .i64 x0.1 1))=false→((((0:Int)≤x0.2)∧(x0.2<(((List.length L):Int))))∧(((iNat x0.2)<(List.length L))∧(((iNe (lGet L (iNat x0.2) (0,0,0,0)).2.2.1 (iAdd .i64 (iAdd .i64 x0.1 1) 1))=true→True)∧((iNe (lGet L (iNat x0.2) (0,0,0,0)).2.2.1 (iAdd .i64 (iAdd .i64 x0.1 1) 1))=false→((((0:Int)≤x0.2)∧(x0.2<(((List.length L):Int))))∧((iNat x0.2)<(List.length L))))))))))))))))∧((iLt x0.2 (lLen L))=false→True))) (m,0)∧Am (fun(x0:(Int×Int))=>(bAnd (iLt x0.2 (lLen L)) (bAnd (bNot (iNe (lGet L (iNat x0.2) (0,0,0,0)).1 x0.1)) (bAnd (bNot (iNe (lGet L (iNat x0.2) (0,0,0,0)).2.1 (iAdd .i64 x0.1 1))) (bAnd (bNot (iNe (lGet L (iNat x0.2) (0,0,0,0)).2.2.1 (iAdd .i64 (iAdd .i64 x0.1 1) 1))) (bNot (iNe (lGet L (iNat x0.2) (0,0,0,0)).2.2.2 (iAdd .i64 (iAdd .i64 (iAdd .i64 x0.1 1) 1) 1)))))))) (fun(x0:(Int×Int))=>((iAdd .i64 (iAdd .i64 (iAdd .i64 (iAdd .i64 x0.1 1) 1) 1) 1),(iAdd .i64 x0.2 1))) (m,0)=((Bu FC x m).2,(x.length:Int)):=by
  refine bh hl (0,0,0,0) (fun i hi=>?_) ?_
  · obtain⟨b1,b2⟩:=V7 (m:=m) hU h0 (by omega) (0,0,0,0) i (by omega);have bm:i*4+4≤x.length*4:=dQ hi;have g:=hg i hi
    have hlt:(i:Int)<(L.length:Int):=by omega
    have hlN:i<L.length:=by omega
    have ha:=EJ x i (0,0,0,0) hi;generalize (BH FC x m i).2=k at b1 b2 g ⊢;generalize x.getD i (0,0,0,0)=a at g ha ⊢;have e0:IntKind.i64.wrap (k+1)=k+1:=J4 (by omega) (by omega);have e1:IntKind.i64.wrap ((k+1)+1)=(k+1)+1:=J4 (by omega) (by omega);have e2:IntKind.i64.wrap (((k+1)+1)+1)=((k+1)+1)+1:=J4 (by omega) (by omega);have e3:IntKind.i64.wrap ((((k+1)+1)+1)+1)=(((k+1)+1)+1)+1:=J4 (by omega) (by omega);simp only[BS,AL,Ap,Bg,cn,bf,CU,Ar,CV,dn,Az,AB,MO,g,FC,e0,e1,e2,e3];simp[hlt,hlN]
  · simp[Ar,Ap,hL,Az]
 refine⟨hok,⟨up.1,by omega⟩,key.1,?_⟩;simp only[key.2];simp[Bp,Ar,Ap,hL]
def FA(a:List (Int×Int×Int×Int))(k:Int):(List (Int×Int×Int×Int))×Int:=((Fs a k).1,(Fs a k).2)
theorem oP(x:List (List (Int×Int×Int×Int)))(h:Ot x)(m:Int)(h0:0≤m)(h1:m+4398046511104≤2305843009213693952):Qp x∧(m≤(Gu x m).2∧(Gu x m).2≤m+4398046511104)∧Qs ((Gu x m).1,m)∧NM ((Gu x m).1,m)=(Gu x m).2:=by
 have hl:x.length≤1048576:=h.1
 have hU:TK FA x 4194304:=by
  intro a ha k k0 k1;obtain⟨_,⟨p0,q0⟩,y0,z0⟩:=aH a (h.2 a ha) k (by omega) (by omega)
  have t0:¬ (Fs a k).2<0:=by omega
  have ee:(FA a k).2=(Fs a k).2:=by simp only[FA]
  rw[ee];omega
 have hB:x.length*4194304≤4398046511104:=fp hl (by decide);have up:=gH (m:=m) hU h0 (by omega)
 have hmg:Gu x m=Bu FA x m:=by unfold FA;rw[Ye,Yg];rfl
 rw[hmg];have hL:=JJ FA x m
 have hg:∀ i,i<x.length→(Bu FA x m).1.getD i []=(FA (x.getD i []) (BH FA x m i).2).1:=fun i hi=>cK _ _ _ hi _
 have hok:Qp x:=by rw[jc];exact⟨BU h.1 (by decide),fun a ha=>⟨BU (h.2 a ha).1 (by decide),fun a ha=>⟨trivial,trivial,trivial,trivial⟩⟩⟩
 rw[ji,ju];dsimp only;generalize (Bu FA x m).1=L at hL hg ⊢
 have key:LoopOk (fun(x0:(Int×Int))=>(bAnd (iLt x0.2 (lLen L)) (bNot (iLt (Ft ((lGet L (iNat x0.2) []),x0.1)) 0)))) (fun(x0:(Int×Int))=>((Ft ((lGet L (iNat x0.2) []),x0.1)),(iAdd .i64 x0.2 1))) (fun(x0:(Int×Int))=>(((iLt x0.2 (lLen L))=true→((((0:Int)≤x0.2)∧(x0.2<(((List.length L):Int))))∧(((iNat x0.2)<(List.length L))∧(NL ((lGet L (iNat x0.2) []),x0.1)))))∧((iLt x0.2 (lLen L))=false→True))) (m,0)∧Am (fun(x0:(Int×Int))=>(bAnd (iLt x0.2 (lLen L)) (bNot (iLt (Ft ((lGet L (iNat x0.2) []),x0.1)) 0)))) (fun(x0:(Int×Int))=>((Ft ((lGet L (iNat x0.2) []),x0.1)),(iAdd .i64 x0.2 1))) (m,0)=((Bu FA x m).2,(x.length:Int)):=by
  refine bh hl [] (fun i hi=>?_) ?_
  · obtain⟨b1,b2⟩:=V7 (m:=m) hU h0 (by omega) [] i (by omega);have bm:i*4194304+4194304≤x.length*4194304:=dQ hi;have g:=hg i hi
    have hlt:(i:Int)<(L.length:Int):=by omega
    have hlN:i<L.length:=by omega
    have ha:=EJ x i [] hi;generalize (BH FA x m i).2=k at b1 b2 g ⊢;generalize x.getD i []=a at g ha ⊢;obtain⟨_,⟨p0,q0⟩,y0,z0⟩:=aH a (h.2 a ha) k (by omega) (by omega)
    have t0:¬ (Fs a k).2<0:=by omega
    simp only[BS,AL,Ap,Bg,cn,bf,CU,Ar,CV,dn,Az,AB,MO,g,FA,y0,z0,t0];simp[hlt,hlN,y0,z0,t0]
  · simp[Ar,Ap,hL,Az]
 refine⟨hok,⟨up.1,by omega⟩,key.1,?_⟩;simp only[key.2];simp[Bp,Ar,Ap,hL]
theorem sj(x:Int×(List (List (Int×Int×Int×Int))))(h:GU x)(m:Int)(h0:0≤m)(h1:m+4398046511104≤2305843009213693952):LU x∧(m≤(CB x m).2∧(CB x m).2≤m+4398046511104)∧NN ((x.1,(CB x m).1.2),m)∧GC ((x.1,(CB x m).1.2),m)=(CB x m).2:=by
 unfold GU at h;obtain⟨k0,⟨p0,q0⟩,y0,z0⟩:=oP x.2 h.1 m (by omega) (by omega)
 have t0:¬ (Gu x.2 m).2<0:=by omega
 have e:CB x m=((x.1,(Gu x.2 m).1),(Gu x.2 m).2):=by rw[Yt,Ye];rfl
 have hok:LU x:=by rw[Yw];exact⟨trivial,⟨BU h.1.1 (by decide),fun a ha=>⟨BU (h.1.2 a ha).1 (by decide),fun a ha=>⟨trivial,trivial,trivial,trivial⟩⟩⟩⟩
 rw[e];refine⟨hok,⟨by simp only;omega,by simp only;omega⟩,?_,?_⟩
 · rw[kr];simp[Ar,Bp,y0,z0,t0]
 · rw[kv];simp[Ar,Bp,y0,z0,t0]
end
theorem bc{c:Int→Bool}{f:Int→Int}{n:Nat}(hn:n≤1048576)(h1:∀ i:Nat,i<n→c i=true)(h2:c n=false)(h3:∀ i:Int,f i=iAdd .i64 i 1):Am c f 0=(n:Int):=
 (Eg (p:=fun _=>True) n (fun i=>(i:Int)) rfl (fun i hi=>⟨trivial,h1 i hi,by rw[h3,Cx (by unfold A5;omega)];omega⟩) ⟨trivial,h2⟩).2
theorem Sg{k:Int}{x:List (List (Int×Int×Int×Int))}(h:MapOk k x):E6 (k,x)=true:=by
 obtain⟨k1,k2,l1,l2,row,act⟩:=h;rw[Uk];rw[bc (n:=x.length) (by omega) ?_ ?_ fun _=>rfl]
 · simp only[Az,AB,Ca,Ar,DZ,Ap];simp;omega
 · intro i hi
   have e:lGet x (iNat (i:Int)) []=x.getD i []:=by rw[BS,AL,Bg]
   have hr:=row i hi;rw[bc (n:=(x.getD i []).length) (by omega) ?_ ?_ fun _=>rfl]
   · simp only[e,Az,AB,Ar,CU,Ap,hr];simp;omega
   · intro j hj;have hact:=act i j hi hj
     have e2:lGet (x.getD i []) (iNat (j:Int)) (0,0,0,0)=(x.getD i []).getD j (0,0,0,0):=by rw[BS,AL,Bg]
     simp only[e,e2,Az,AB,Ca,Bp,Ar,CV,CU,C9,Ap];generalize (x.getD i []).getD j (0,0,0,0)=a at hact ⊢;obtain⟨a1,a2,a3⟩:=hact;rw[a1]
     have hj':(j:Int)<((x.getD i []).length:Int):=by omega
     simp only[hj',decide_true,JY,G2,Bool.false_or]
     have h10:(!decide (a.1=9)&&decide ((x.length:Int)≤a.2.2.2))=false:=by
      by_cases h9:a.1=9
      · rw[Cq h9];rfl
      · have:=a3 h9;rw[C5 (by omega:¬ (x.length:Int)≤a.2.2.2),Bool.and_false]
     by_cases hz:i=0
     · have:=a2 hz;rw[h10,C5 this];simp
     · rw[h10];simp[hz]
   · simp only[e,Az,Ar,Ap];simp
 · simp only[Az,Ar,Ap];simp
def xq(n:Int)(i:Int)(a:Int×Int×Int×Int):Prop:=ED a=true∧(i=0→a.1≠1)∧(a.1≠9→a.2.2.2<n)
def xG(k n:Int)(i:Int)(r:List (Int×Int×Int×Int)):Prop:=(r.length:Int)=k∧∀ a∈r,xq n i a
def wJ(k n:Int)(x:List (List (Int×Int×Int×Int))):Prop:=∀ i:Nat,i<x.length→xG k n i (x.getD i [])
theorem e9{k:Int}{x:List (List (Int×Int×Int×Int))}(h:MapOk k x):wJ k x.length x:=by
 intro i hi;refine⟨h.row i hi,fun a ha=>?_⟩;obtain⟨j,hj,rfl⟩:=List.mem_iff_getElem.1 ha;have:=h.act i j hi hj;rw[BT (l:=x.getD i []),Ax hj,Dh] at this;exact⟨this.1,fun e=>this.2.1 (by omega),this.2.2⟩
theorem WU{k:Int}{x:List (List (Int×Int×Int×Int))}(h:MapOk k x):GU (k,x):=by
 have:=h.k2;have:=h.l2;refine⟨⟨by show x.length≤1048576;omega,fun r hr=>?_⟩,trivial⟩;obtain⟨i,hi,rfl⟩:=List.mem_iff_getElem.1 hr;have:=h.row i hi;rw[BT,Ax hi,Dh] at this;exact⟨by omega,fun a _=>by simp[OI]⟩
section
set_option maxRecDepth 8000
def lH:DCode:=(.seq [0] (.region [oi 0 2 0,oa 1 3 (.mv (.c (.bool false)))]) (.seq [4,0] (.region [om 0 7 0,om 1 4 7]) (.seq [4,0] (.seq [15,4,0] (.region [om 0 8 0,oa 1 9 (.lenT (.t 8)),oa 2 10 (.bin .gtr (.t 9) (.c (.int .i64 0))),om 3 11 10,og 4 12 (.mv (.t 0)) 11 true,og 5 13 (.index (.t 12) (.c (.int .i64 0))) 11 true,og 6 14 (.bin .eql (.t 13) (.c (.int .u8 45))) 11 true,oa 7 15 (.pick (.t 11) (.t 14) (.c (.bool false)))]) (.cond (.t 15) (.region [om 0 16 0,oa 1 17 (.substr (.t 16) (some (.c (.int .i64 1))) none),om 2 4 17]) .skip)) (.seq [4,0] (.seq [25,4,0] (.region [om 0 18 4,oa 1 19 (.lenT (.t 18)),oa 2 20 (.bin .lss (.t 19) (.c (.int .i64 1))),om 3 21 20,og 4 22 (.mv (.t 4)) 21 false,og 5 23 (.lenT (.t 22)) 21 false,og 6 24 (.bin .gtr (.t 23) (.c (.int .i64 9))) 21 false,oa 7 25 (.pick (.t 21) (.c (.bool true)) (.t 24))]) (.cond (.t 25) (.seq [3,2] (.region [oi 0 2 0,oa 1 3 (.mv (.c (.bool false)))]) .ret) .skip)) (.seq [5,4,0] (.region [oi 0 5 0]) (.seq [5,4,0] (.seq [6,5,4,0] (.region [oi 0 6 0]) (.block 0 (.loop [0,4,5,6] 1 (.seq [6,5,4,0] (.seq [29,6,5,4,0] (.region [om 0 26 6,om 1 27 4,oa 2 28 (.lenT (.t 27)),oa 3 29 (.bin .lss (.t 26) (.t 28))]) (.cond (.t 29) .skip (.exit 0))) (.seq [6,5,4,0] (.block 1 (.seq [6,5,4,0] (.seq [41,6,5,4,0] (.region [om 0 32 4,om 1 33 6,oa 2 34 (.index (.t 32) (.t 33)),oa 3 35 (.bin .lss (.t 34) (.c (.int .u8 48))),om 4 36 35,og 5 37 (.mv (.t 4)) 36 false,og 6 38 (.mv (.t 6)) 36 false,og 7 39 (.index (.t 37) (.t 38)) 36 false,og 8 40 (.bin .gtr (.t 39) (.c (.int .u8 57))) 36 false,oa 9 41 (.pick (.t 36) (.c (.bool true)) (.t 40))]) (.cond (.t 41) (.seq [3,2] (.region [oi 0 2 0,oa 1 3 (.mv (.c (.bool false)))]) .ret) .skip)) (.region [om 0 42 5,oa 1 43 (.bin .mul (.c (.int .i64 10)) (.t 42)),om 2 44 4,om 3 45 6,oa 4 46 (.index (.t 44) (.t 45)),oa 5 47 (.conv .i64 (.t 46)),oa 6 48 (.bin .add (.t 43) (.t 47)),oa 7 49 (.bin .sub (.t 48) (.c (.int .i64 48))),om 8 5 49]))) (.region [om 0 30 6,oa 1 31 (.bin .add (.t 30) (.c (.int .i64 1))),om 2 6 31])))))) (.seq [5,0] (.seq [54,5,0] (.region [om 0 50 4,oa 1 51 (.lenT (.t 50)),om 2 52 0,oa 3 53 (.lenT (.t 52)),oa 4 54 (.bin .lss (.t 51) (.t 53))]) (.cond (.t 54) (.region [om 0 55 5,oa 1 56 (.un .neg (.t 55)),om 2 5 56]) .skip)) (.seq [5] (.seq [60,5] (.region [om 0 57 5,oF 1 58 Dn [(.t 57)],om 2 59 0,oa 3 60 (.bin .neq (.t 58) (.t 59))]) (.cond (.t 60) (.seq [3,2] (.region [oi 0 2 0,oa 1 3 (.mv (.c (.bool false)))]) .ret) .skip)) (.seq [3,2] (.region [om 0 61 5,om 1 2 61,oa 2 3 (.mv (.c (.bool true)))]) .ret)))))))))
def GI:Fn:=⟨⟨1,62,0,true,[.tmp 2,.tmp 3],lH⟩,[.one .frz (.str)],.tup [.one .own (.int .i64),.one .own (.bool)]⟩
theorem YP:GI.A:=Be ⟨LX,trivial⟩
def BR:List UInt8→Int×Bool:=GI.V
def Ky:List UInt8→Prop:=GI.O
theorem YX:GI.B:=Bj ⟨LY,trivial⟩ (by kernel_rfl) (fun x=>by kernel_rfl)
def mS:DCode:=(.seq [6,2,1,0] (.region [oa 0 6 (.allocB 0 [(.int .i64 0),(.int .i64 0),(.int .i64 0),(.int .i64 0)])]) (.seq [7,6,2,1,0] (.region [om 0 10 2,oF 1 11 GI [(.t 10)],om 2 9 11,oa 3 12 (.extract (.t 9) 0),oa 4 13 (.extract (.t 9) 1),om 5 7 12,om 6 8 13]) (.seq [6,2,0] (.seq [14,7,6,2,0] (.region [om 0 14 1]) (.block 0 (.seq [15,14,7,6,2,0] (.region [oa 0 16 (.bin .eql (.t 14) (.c (.str [109,111]))),om 1 15 16]) (.cond (.t 15) (.seq [6] (.region [om 0 17 7,oa 1 18 (.build [(.int .i64 0),(.int .i64 0),(.int .i64 0),(.int .i64 0)] [(0,1,(.c (.int .i64 3))),(3,1,(.t 17))]),os 2 (.storeB 0 4 (.t 6) (.t 18))]) .ret) (.seq [19,14,7,6,2,0] (.region [oa 0 20 (.bin .eql (.t 14) (.c (.str [116,103]))),om 1 19 20]) (.cond (.t 19) (.seq [6] (.region [om 0 21 7,oa 1 22 (.build [(.int .i64 0),(.int .i64 0),(.int .i64 0),(.int .i64 0)] [(0,1,(.c (.int .i64 4))),(3,1,(.t 21))]),os 2 (.storeB 0 4 (.t 6) (.t 22))]) .ret) (.seq [23,14,7,6,2,0] (.region [oa 0 24 (.bin .eql (.t 14) (.c (.str [116,111]))),om 1 23 24]) (.cond (.t 23) (.seq [6] (.region [om 0 25 7,oa 1 26 (.build [(.int .i64 0),(.int .i64 0),(.int .i64 0),(.int .i64 0)] [(0,1,(.c (.int .i64 5))),(3,1,(.t 25))]),os 2 (.storeB 0 4 (.t 6) (.t 26))]) .ret) (.seq [27,7,6,2,0] (.region [oa 0 28 (.bin .eql (.t 14) (.c (.str [109,97,99,114,111]))),om 1 27 28]) (.cond (.t 27) (.seq [6] (.region [om 0 29 7,oa 1 30 (.build [(.int .i64 0),(.int .i64 0),(.int .i64 0),(.int .i64 0)] [(0,1,(.c (.int .i64 9))),(3,1,(.t 29))]),os 2 (.storeB 0 4 (.t 6) (.t 30))]) .ret) .skip)))))))))) (.seq [6] (.region [om 0 31 0,om 1 32 2,oF 2 33 Fx [(.t 32)],oa 3 34 (.build [(.int .i64 0),(.int .i64 0),(.int .i64 0),(.int .i64 0)] [(0,1,(.t 31)),(2,1,(.t 33))]),os 4 (.storeB 0 4 (.t 6) (.t 34))]) .ret))))
def IG:Fn:=⟨⟨3,35,1,true,[.cell 6 (some 4)],mS⟩,[.one .frz (.int .i64),.one .frz (.str),.one .frz (.str)],.one (.agg [(.own,.int .i64),(.own,.int .i64),(.own,.int .i64),(.own,.int .i64)])⟩
theorem mR:IG.A:=Be ⟨YP,T6,trivial⟩
def Ed:Int×List UInt8×List UInt8→Int×Int×Int×Int:=IG.V
def Q2:Int×List UInt8×List UInt8→Prop:=IG.O
theorem mr:IG.B:=Bj ⟨YX,Uc,trivial⟩ (by kernel_rfl) (fun x=>by kernel_rfl)
def jA:DCode:=(.seq [2,0] (.region [oa 0 2 (.allocB 0 [(.int .i64 0),(.int .i64 0),(.int .i64 0),(.int .i64 0)]),oa 1 3 (.mv (.c (.bool false)))]) (.seq [4,2,0] (.region [om 0 10 0,oF 1 11 EH [(.t 10)],oa 2 12 (.build [(.int .i64 0),(.int .i64 0),(.int .i64 0),(.int .i64 0)] [(0,1,(.c (.int .i64 2))),(1,1,(.t 11))]),oa 3 4 (.allocB 1 [(.int .i64 0),(.int .i64 0),(.int .i64 0),(.int .i64 0)]),os 4 (.storeB 1 4 (.t 4) (.t 12))]) (.seq [5,4,2,0] (.region [om 0 13 0,oF 1 14 DP [(.t 13),(.c (.int .u8 58))],on 2 5 14]) (.seq [6,5,4,2,0] (.region [om 0 15 0,oF 1 16 DP [(.t 15),(.c (.int .u8 47))],on 2 6 16]) (.seq [7,6,5,4,2,0] (.region [om 0 17 0,oF 1 18 DP [(.t 17),(.c (.int .u8 45))],on 2 7 18]) (.seq [4,2,0] (.block 0 (.seq [19,7,6,5,4,2,0] (.region [om 0 20 0,oa 1 21 (.bin .eql (.t 20) (.c (.str [110,111,110,101]))),om 2 19 21]) (.cond (.t 19) (.region [oa 0 22 (.build [(.int .i64 0),(.int .i64 0),(.int .i64 0),(.int .i64 0)] [(0,1,(.c (.int .i64 0)))]),os 1 (.storeB 1 4 (.t 4) (.t 22))]) (.seq [23,7,6,5,4,2,0] (.region [om 0 24 0,oa 1 25 (.bin .eql (.t 24) (.c (.str [112,97,115,115]))),om 2 23 25]) (.cond (.t 23) (.region [oa 0 26 (.build [(.int .i64 0),(.int .i64 0),(.int .i64 0),(.int .i64 0)] [(0,1,(.c (.int .i64 1)))]),os 1 (.storeB 1 4 (.t 4) (.t 26))]) (.seq [27,7,6,5,4,2,0] (.region [om 0 28 0,oa 1 29 (.bin .eql (.t 28) (.c (.str [99,97,112,115]))),om 2 27 29]) (.cond (.t 27) (.region [oa 0 30 (.build [(.int .i64 0),(.int .i64 0),(.int .i64 0),(.int .i64 0)] [(0,1,(.c (.int .i64 10)))]),os 1 (.storeB 1 4 (.t 4) (.t 30))]) (.seq [31,7,6,5,4,2,0] (.region [on 0 32 5,oa 1 33 (.len (.t 32)),oa 2 34 (.bin .eql (.t 33) (.c (.int .i64 2))),om 3 31 34]) (.cond (.t 31) (.region [on 0 35 5,xA 1 36 (.indexA 1 (.t 35) (.c (.int .i64 0))) (rg 1),xA 2 37 (.loadH none (.t 36)) (rg 2),on 3 38 5,xA 4 39 (.indexA 1 (.t 38) (.c (.int .i64 1))) [3],xA 5 40 (.loadH none (.t 39)) [3,4],xF 6 41 IG [(.c (.int .i64 8)),(.t 37),(.t 40)] (rg 6),xS 7 (.storeB 1 4 (.t 4) (.t 41)) (rg 7)]) (.seq [42,7,6,4,2,0] (.region [on 0 43 6,oa 1 44 (.len (.t 43)),oa 2 45 (.bin .eql (.t 44) (.c (.int .i64 2))),om 3 42 45]) (.cond (.t 42) (.seq [9,8,6,4,2,0] (.region [on 0 47 6,oa 1 48 (.indexA 1 (.t 47) (.c (.int .i64 0))),oa 2 49 (.loadH none (.t 48)),oF 3 50 GI [(.t 49)],om 4 46 50,oa 5 51 (.extract (.t 46) 0),oa 6 52 (.extract (.t 46) 1),om 7 8 51,om 8 9 52]) (.seq [9,8,6,4,2,0] (.region [on 0 53 6,xA 1 54 (.indexA 1 (.t 53) (.c (.int .i64 1))) (rg 1),xA 2 55 (.loadH none (.t 54)) (rg 2),on 4 57 6,xA 5 58 (.indexA 1 (.t 57) (.c (.int .i64 0))) [4],xA 6 59 (.loadH none (.t 58)) [4,5],xF 3 56 EH [(.t 55)] (rg 3),xF 7 60 Fx [(.t 59)] (rg 7),xA 8 61 (.build [(.int .i64 0),(.int .i64 0),(.int .i64 0),(.int .i64 0)] [(0,1,(.c (.int .i64 6))),(1,1,(.t 56)),(2,1,(.t 60))]) (rg 8),xS 9 (.storeB 1 4 (.t 4) (.t 61)) (rg 9)]) (.seq [62,8,6,4,2,0] (.region [om 0 62 9]) (.cond (.t 62) (.region [on 0 63 6,oa 1 64 (.indexA 1 (.t 63) (.c (.int .i64 1))),oa 2 65 (.loadH none (.t 64)),oF 3 66 EH [(.t 65)],om 4 67 8,oa 5 68 (.build [(.int .i64 0),(.int .i64 0),(.int .i64 0),(.int .i64 0)] [(0,1,(.c (.int .i64 7))),(1,1,(.t 66)),(3,1,(.t 67))]),os 6 (.storeB 1 4 (.t 4) (.t 68))]) .skip)))) (.seq [69,7,4,2,0] (.region [on 0 70 7,oa 1 71 (.len (.t 70)),oa 2 72 (.bin .eql (.t 71) (.c (.int .i64 2))),om 3 69 72]) (.cond (.t 69) (.region [on 0 73 7,xA 1 74 (.indexA 1 (.t 73) (.c (.int .i64 1))) (rg 1),xA 2 75 (.loadH none (.t 74)) (rg 2),on 4 77 7,xA 5 78 (.indexA 1 (.t 77) (.c (.int .i64 0))) [4],xA 6 79 (.loadH none (.t 78)) [4,5],xF 3 76 EH [(.t 75)] (rg 3),xF 7 80 Fx [(.t 79)] (rg 7),xA 8 81 (.build [(.int .i64 0),(.int .i64 0),(.int .i64 0),(.int .i64 0)] [(0,1,(.c (.int .i64 2))),(1,1,(.t 76)),(2,1,(.t 80))]) (rg 8),xS 9 (.storeB 1 4 (.t 4) (.t 81)) (rg 9)]) .skip))))))))))))) (.seq [4,2] (.seq [89,4,2] (.region [om 0 82 0,oa 1 83 (.bin .eql (.t 82) (.c (.str []))),om 2 84 83,og 3 85 (.loadB 1 (some 4) (.t 4)) 84 false,⟨4,some 86,.call false Gy.S Gy.P Gy.D [(.t 85)],(some (84,false)),[]⟩,og 5 87 (.mv (.t 0)) 84 false,og 6 88 (.bin .neq (.t 86) (.t 87)) 84 false,oa 7 89 (.pick (.t 84) (.c (.bool true)) (.t 88))]) (.cond (.t 89) (.seq [3,2] (.region [oa 0 90 (.build [(.int .i64 0),(.int .i64 0),(.int .i64 0),(.int .i64 0)] []),os 1 (.storeB 0 4 (.t 2) (.t 90)),oa 2 3 (.mv (.c (.bool false)))]) .ret) .skip)) (.seq [3,2] (.region [ob 0 91 (.loadB 1 (some 4) (.t 4)),os 1 (.storeB 0 4 (.t 2) (.t 91)),oa 2 3 (.mv (.c (.bool true)))]) .ret))))))))
def Ip:Fn:=⟨⟨1,92,2,true,[.cell 2 (some 4),.tmp 3],jA⟩,[.one .frz (.str)],.tup [.agg [(.own,.int .i64),(.own,.int .i64),(.own,.int .i64),(.own,.int .i64)],.one .own (.bool)]⟩
theorem jL:Ip.A:=Be ⟨Q1,NR,NR,NR,mR,YP,Q1,T6,Q1,Q1,T6,jq,trivial⟩
def E5:List UInt8→(Int×Int×Int×Int)×Bool:=Ip.V
def NK:List UInt8→Prop:=Ip.O
theorem jP:Ip.B:=Bj ⟨Q5,NQ,NQ,NQ,mr,YX,Q5,Uc,Q5,Q5,Uc,js,trivial⟩ (by kernel_rfl) (fun x=>by kernel_rfl)
end
section
set_option maxRecDepth 100000
def Ex(x:List UInt8)(x0:(Int×Int)):Bool:=(bAnd (iLt x0.2 (lLen (bSel (bAnd (iGt (lLen x) 0) (iEq (sGet x 0) 45)) (lSub x (iNat 1) (lN x)) x))) (bNot (bOr (iLt (sGet (bSel (bAnd (iGt (lLen x) 0) (iEq (sGet x 0) 45)) (lSub x (iNat 1) (lN x)) x) x0.2) 48) (iGt (sGet (bSel (bAnd (iGt (lLen x) 0) (iEq (sGet x 0) 45)) (lSub x (iNat 1) (lN x)) x) x0.2) 57))))
def E4(x:List UInt8)(x0:(Int×Int)):(Int×Int):=((iSub .i64 (iAdd .i64 (iMul .i64 10 x0.1) (iConv .i64 (sGet (bSel (bAnd (iGt (lLen x) 0) (iEq (sGet x 0) 45)) (lSub x (iNat 1) (lN x)) x) x0.2))) 48),(iAdd .i64 x0.2 1))
def QH(x:List UInt8)(x0:(Int×Int)):Prop:=(((iLt x0.2 (lLen (bSel (bAnd (iGt (lLen x) 0) (iEq (sGet x 0) 45)) (lSub x (iNat 1) (lN x)) x)))=true→(((((0:Int)≤x0.2)∧(x0.2<(((List.length (bSel (bAnd (iGt (lLen x) 0) (iEq (sGet x 0) 45)) (lSub x (iNat 1) (lN x)) x)):Int))))∧(((iLt (sGet (bSel (bAnd (iGt (lLen x) 0) (iEq (sGet x 0) 45)) (lSub x (iNat 1) (lN x)) x) x0.2) 48)=true→True)∧((iLt (sGet (bSel (bAnd (iGt (lLen x) 0) (iEq (sGet x 0) 45)) (lSub x (iNat 1) (lN x)) x) x0.2) 48)=false→(((0:Int)≤x0.2)∧(x0.2<(((List.length (bSel (bAnd (iGt (lLen x) 0) (iEq (sGet x 0) 45)) (lSub x (iNat 1) (lN x)) x)):Int)))))))∧(((bOr (iLt (sGet (bSel (bAnd (iGt (lLen x) 0) (iEq (sGet x 0) 45)) (lSub x (iNat 1) (lN x)) x) x0.2) 48) (iGt (sGet (bSel (bAnd (iGt (lLen x) 0) (iEq (sGet x 0) 45)) (lSub x (iNat 1) (lN x)) x) x0.2) 57))=true→True)∧((bOr (iLt (sGet (bSel (bAnd (iGt (lLen x) 0) (iEq (sGet x 0) 45)) (lSub x (iNat 1) (lN x)) x) x0.2) 48) (iGt (sGet (bSel (bAnd (iGt (lLen x) 0) (iEq (sGet x 0) 45)) (lSub x (iNat 1) (lN x)) x) x0.2) 57))=false→(((0:Int)≤x0.2)∧(x0.2<(((List.length (bSel (bAnd (iGt (lLen x) 0) (iEq (sGet x 0) 45)) (lSub x (iNat 1) (lN x)) x)):Int))))))))∧((iLt x0.2 (lLen (bSel (bAnd (iGt (lLen x) 0) (iEq (sGet x 0) 45)) (lSub x (iNat 1) (lN x)) x)))=false→True))
theorem lW (x):BR x=(bSel (bOr (iLt (lLen (bSel (bAnd (iGt (lLen x) 0) (iEq (sGet x 0) 45)) (lSub x (iNat 1) (lN x)) x)) 1) (iGt (lLen (bSel (bAnd (iGt (lLen x) 0) (iEq (sGet x 0) 45)) (lSub x (iNat 1) (lN x)) x)) 9)) (0,false) (bSel (iLt (Am (Ex x) (E4 x) (0,0)).2 (lLen (bSel (bAnd (iGt (lLen x) 0) (iEq (sGet x 0) 45)) (lSub x (iNat 1) (lN x)) x))) (0,false) (bSel (sNe (De (bSel (iLt (lLen (bSel (bAnd (iGt (lLen x) 0) (iEq (sGet x 0) 45)) (lSub x (iNat 1) (lN x)) x)) (lLen x)) (iNeg .i64 (Am (Ex x) (E4 x) (0,0)).1) (Am (Ex x) (E4 x) (0,0)).1)) x) (0,false) ((bSel (iLt (lLen (bSel (bAnd (iGt (lLen x) 0) (iEq (sGet x 0) 45)) (lSub x (iNat 1) (lN x)) x)) (lLen x)) (iNeg .i64 (Am (Ex x) (E4 x) (0,0)).1) (Am (Ex x) (E4 x) (0,0)).1),true)))):=(GI.v x).trans (by kernel_rfl)
theorem lK (x):Ky x=(((((iGt (lLen x) 0)=true→(((0:Int)≤0)∧((0:Int)<(((List.length x):Int)))))∧((iGt (lLen x) 0)=false→True))∧(((bAnd (iGt (lLen x) 0) (iEq (sGet x 0) 45))=true→(((0:Int)≤1)∧(((iNat 1)≤(lN x))∧((lN x)≤(List.length x)))))∧((bAnd (iGt (lLen x) 0) (iEq (sGet x 0) 45))=false→True)))∧(((bOr (iLt (lLen (bSel (bAnd (iGt (lLen x) 0) (iEq (sGet x 0) 45)) (lSub x (iNat 1) (lN x)) x)) 1) (iGt (lLen (bSel (bAnd (iGt (lLen x) 0) (iEq (sGet x 0) 45)) (lSub x (iNat 1) (lN x)) x)) 9))=true→True)∧((bOr (iLt (lLen (bSel (bAnd (iGt (lLen x) 0) (iEq (sGet x 0) 45)) (lSub x (iNat 1) (lN x)) x)) 1) (iGt (lLen (bSel (bAnd (iGt (lLen x) 0) (iEq (sGet x 0) 45)) (lSub x (iNat 1) (lN x)) x)) 9))=false→((LoopOk (Ex x) (E4 x) (QH x) (0,0))∧(((iLt (Am (Ex x) (E4 x) (0,0)).2 (lLen (bSel (bAnd (iGt (lLen x) 0) (iEq (sGet x 0) 45)) (lSub x (iNat 1) (lN x)) x)))=true→True)∧((iLt (Am (Ex x) (E4 x) (0,0)).2 (lLen (bSel (bAnd (iGt (lLen x) 0) (iEq (sGet x 0) 45)) (lSub x (iNat 1) (lN x)) x)))=false→(GB (bSel (iLt (lLen (bSel (bAnd (iGt (lLen x) 0) (iEq (sGet x 0) 45)) (lSub x (iNat 1) (lN x)) x)) (lLen x)) (iNeg .i64 (Am (Ex x) (E4 x) (0,0)).1) (Am (Ex x) (E4 x) (0,0)).1)))))))):=(GI.o x).trans (by kernel_rfl)
theorem N6 (x):Ed x=(bSel (sEq x.2.1 [(109:UInt8),111]) (3,0,0,(BR x.2.2).1) (bSel (sEq x.2.1 [(116:UInt8),103]) (4,0,0,(BR x.2.2).1) (bSel (sEq x.2.1 [(116:UInt8),111]) (5,0,0,(BR x.2.2).1) (bSel (sEq x.2.1 [(109:UInt8),97,99,114,111]) (9,0,0,(BR x.2.2).1) (x.1,0,(DQ x.2.2),0))))):=(IG.v x).trans (by kernel_rfl)
theorem mu (x):Q2 x=((Ky x.2.2)∧(((sEq x.2.1 [(109:UInt8),111])=true→True)∧((sEq x.2.1 [(109:UInt8),111])=false→(((sEq x.2.1 [(116:UInt8),103])=true→True)∧((sEq x.2.1 [(116:UInt8),103])=false→(((sEq x.2.1 [(116:UInt8),111])=true→True)∧((sEq x.2.1 [(116:UInt8),111])=false→(((sEq x.2.1 [(109:UInt8),97,99,114,111])=true→True)∧((sEq x.2.1 [(109:UInt8),97,99,114,111])=false→(Kv x.2.2)))))))))):=(IG.o x).trans (by kernel_rfl)
theorem kc (x):E5 x=(bSel (bOr (sEq x []) (sNe (AG ((bSel (sEq x [(110:UInt8),111,110,101]) 0 (bSel (sEq x [(112:UInt8),97,115,115]) 1 (bSel (sEq x [(99:UInt8),97,112,115]) 10 (bSel (iEq (lLen (Al (x,58))) 2) (Ed (8,(lGet (Al (x,58)) (iNat 0) []),(lGet (Al (x,58)) (iNat 1) []))).1 (bSel (iEq (lLen (Al (x,47))) 2) (bSel (BR (lGet (Al (x,47)) (iNat 0) [])).2 7 6) (bSel (iEq (lLen (Al (x,45))) 2) 2 2)))))),(bSel (sEq x [(110:UInt8),111,110,101]) 0 (bSel (sEq x [(112:UInt8),97,115,115]) 0 (bSel (sEq x [(99:UInt8),97,112,115]) 0 (bSel (iEq (lLen (Al (x,58))) 2) (Ed (8,(lGet (Al (x,58)) (iNat 0) []),(lGet (Al (x,58)) (iNat 1) []))).2.1 (bSel (iEq (lLen (Al (x,47))) 2) (bSel (BR (lGet (Al (x,47)) (iNat 0) [])).2 (Cv (lGet (Al (x,47)) (iNat 1) [])) (Cv (lGet (Al (x,47)) (iNat 1) []))) (bSel (iEq (lLen (Al (x,45))) 2) (Cv (lGet (Al (x,45)) (iNat 1) [])) (Cv x))))))),(bSel (sEq x [(110:UInt8),111,110,101]) 0 (bSel (sEq x [(112:UInt8),97,115,115]) 0 (bSel (sEq x [(99:UInt8),97,112,115]) 0 (bSel (iEq (lLen (Al (x,58))) 2) (Ed (8,(lGet (Al (x,58)) (iNat 0) []),(lGet (Al (x,58)) (iNat 1) []))).2.2.1 (bSel (iEq (lLen (Al (x,47))) 2) (bSel (BR (lGet (Al (x,47)) (iNat 0) [])).2 0 (DQ (lGet (Al (x,47)) (iNat 0) []))) (bSel (iEq (lLen (Al (x,45))) 2) (DQ (lGet (Al (x,45)) (iNat 0) [])) 0)))))),(bSel (sEq x [(110:UInt8),111,110,101]) 0 (bSel (sEq x [(112:UInt8),97,115,115]) 0 (bSel (sEq x [(99:UInt8),97,112,115]) 0 (bSel (iEq (lLen (Al (x,58))) 2) (Ed (8,(lGet (Al (x,58)) (iNat 0) []),(lGet (Al (x,58)) (iNat 1) []))).2.2.2 (bSel (iEq (lLen (Al (x,47))) 2) (bSel (BR (lGet (Al (x,47)) (iNat 0) [])).2 (BR (lGet (Al (x,47)) (iNat 0) [])).1 0) (bSel (iEq (lLen (Al (x,45))) 2) 0 0)))))))) x)) ((0,0,0,0),false) (((bSel (sEq x [(110:UInt8),111,110,101]) 0 (bSel (sEq x [(112:UInt8),97,115,115]) 1 (bSel (sEq x [(99:UInt8),97,112,115]) 10 (bSel (iEq (lLen (Al (x,58))) 2) (Ed (8,(lGet (Al (x,58)) (iNat 0) []),(lGet (Al (x,58)) (iNat 1) []))).1 (bSel (iEq (lLen (Al (x,47))) 2) (bSel (BR (lGet (Al (x,47)) (iNat 0) [])).2 7 6) (bSel (iEq (lLen (Al (x,45))) 2) 2 2)))))),(bSel (sEq x [(110:UInt8),111,110,101]) 0 (bSel (sEq x [(112:UInt8),97,115,115]) 0 (bSel (sEq x [(99:UInt8),97,112,115]) 0 (bSel (iEq (lLen (Al (x,58))) 2) (Ed (8,(lGet (Al (x,58)) (iNat 0) []),(lGet (Al (x,58)) (iNat 1) []))).2.1 (bSel (iEq (lLen (Al (x,47))) 2) (bSel (BR (lGet (Al (x,47)) (iNat 0) [])).2 (Cv (lGet (Al (x,47)) (iNat 1) [])) (Cv (lGet (Al (x,47)) (iNat 1) []))) (bSel (iEq (lLen (Al (x,45))) 2) (Cv (lGet (Al (x,45)) (iNat 1) [])) (Cv x))))))),(bSel (sEq x [(110:UInt8),111,110,101]) 0 (bSel (sEq x [(112:UInt8),97,115,115]) 0 (bSel (sEq x [(99:UInt8),97,112,115]) 0 (bSel (iEq (lLen (Al (x,58))) 2) (Ed (8,(lGet (Al (x,58)) (iNat 0) []),(lGet (Al (x,58)) (iNat 1) []))).2.2.1 (bSel (iEq (lLen (Al (x,47))) 2) (bSel (BR (lGet (Al (x,47)) (iNat 0) [])).2 0 (DQ (lGet (Al (x,47)) (iNat 0) []))) (bSel (iEq (lLen (Al (x,45))) 2) (DQ (lGet (Al (x,45)) (iNat 0) [])) 0)))))),(bSel (sEq x [(110:UInt8),111,110,101]) 0 (bSel (sEq x [(112:UInt8),97,115,115]) 0 (bSel (sEq x [(99:UInt8),97,112,115]) 0 (bSel (iEq (lLen (Al (x,58))) 2) (Ed (8,(lGet (Al (x,58)) (iNat 0) []),(lGet (Al (x,58)) (iNat 1) []))).2.2.2 (bSel (iEq (lLen (Al (x,47))) 2) (bSel (BR (lGet (Al (x,47)) (iNat 0) [])).2 (BR (lGet (Al (x,47)) (iNat 0) [])).1 0) (bSel (iEq (lLen (Al (x,45))) 2) 0 0))))))),true)):=(Ip.v x).trans (by kernel_rfl)
theorem jH (x):NK x=((Jv x)∧((Iu (x,58))∧((Iu (x,47))∧((Iu (x,45))∧((((sEq x [(110:UInt8),111,110,101])=true→True)∧((sEq x [(110:UInt8),111,110,101])=false→(((sEq x [(112:UInt8),97,115,115])=true→True)∧((sEq x [(112:UInt8),97,115,115])=false→(((sEq x [(99:UInt8),97,112,115])=true→True)∧((sEq x [(99:UInt8),97,112,115])=false→(((iEq (lLen (Al (x,58))) 2)=true→((((0:Int)≤0)∧((0:Int)<(((List.length (Al (x,58))):Int))))∧(((iNat 0)<(List.length (Al (x,58))))∧((((0:Int)≤1)∧((1:Int)<(((List.length (Al (x,58))):Int))))∧(((iNat 1)<(List.length (Al (x,58))))∧(Q2 (8,(lGet (Al (x,58)) (iNat 0) []),(lGet (Al (x,58)) (iNat 1) []))))))))∧((iEq (lLen (Al (x,58))) 2)=false→(((iEq (lLen (Al (x,47))) 2)=true→((((0:Int)≤0)∧((0:Int)<(((List.length (Al (x,47))):Int))))∧(((iNat 0)<(List.length (Al (x,47))))∧((Ky (lGet (Al (x,47)) (iNat 0) []))∧((((0:Int)≤1)∧((1:Int)<(((List.length (Al (x,47))):Int))))∧(((iNat 1)<(List.length (Al (x,47))))∧((((0:Int)≤0)∧((0:Int)<(((List.length (Al (x,47))):Int))))∧(((iNat 0)<(List.length (Al (x,47))))∧((Jv (lGet (Al (x,47)) (iNat 1) []))∧((Kv (lGet (Al (x,47)) (iNat 0) []))∧(((BR (lGet (Al (x,47)) (iNat 0) [])).2=true→((((0:Int)≤1)∧((1:Int)<(((List.length (Al (x,47))):Int))))∧(((iNat 1)<(List.length (Al (x,47))))∧(Jv (lGet (Al (x,47)) (iNat 1) [])))))∧((BR (lGet (Al (x,47)) (iNat 0) [])).2=false→True))))))))))))∧((iEq (lLen (Al (x,47))) 2)=false→(((iEq (lLen (Al (x,45))) 2)=true→((((0:Int)≤1)∧((1:Int)<(((List.length (Al (x,45))):Int))))∧(((iNat 1)<(List.length (Al (x,45))))∧((((0:Int)≤0)∧((0:Int)<(((List.length (Al (x,45))):Int))))∧(((iNat 0)<(List.length (Al (x,45))))∧((Jv (lGet (Al (x,45)) (iNat 1) []))∧(Kv (lGet (Al (x,45)) (iNat 0) []))))))))∧((iEq (lLen (Al (x,45))) 2)=false→True))))))))))))∧(((sEq x [])=true→True)∧((sEq x [])=false→(LP ((bSel (sEq x [(110:UInt8),111,110,101]) 0 (bSel (sEq x [(112:UInt8),97,115,115]) 1 (bSel (sEq x [(99:UInt8),97,112,115]) 10 (bSel (iEq (lLen (Al (x,58))) 2) (Ed (8,(lGet (Al (x,58)) (iNat 0) []),(lGet (Al (x,58)) (iNat 1) []))).1 (bSel (iEq (lLen (Al (x,47))) 2) (bSel (BR (lGet (Al (x,47)) (iNat 0) [])).2 7 6) (bSel (iEq (lLen (Al (x,45))) 2) 2 2)))))),(bSel (sEq x [(110:UInt8),111,110,101]) 0 (bSel (sEq x [(112:UInt8),97,115,115]) 0 (bSel (sEq x [(99:UInt8),97,112,115]) 0 (bSel (iEq (lLen (Al (x,58))) 2) (Ed (8,(lGet (Al (x,58)) (iNat 0) []),(lGet (Al (x,58)) (iNat 1) []))).2.1 (bSel (iEq (lLen (Al (x,47))) 2) (bSel (BR (lGet (Al (x,47)) (iNat 0) [])).2 (Cv (lGet (Al (x,47)) (iNat 1) [])) (Cv (lGet (Al (x,47)) (iNat 1) []))) (bSel (iEq (lLen (Al (x,45))) 2) (Cv (lGet (Al (x,45)) (iNat 1) [])) (Cv x))))))),(bSel (sEq x [(110:UInt8),111,110,101]) 0 (bSel (sEq x [(112:UInt8),97,115,115]) 0 (bSel (sEq x [(99:UInt8),97,112,115]) 0 (bSel (iEq (lLen (Al (x,58))) 2) (Ed (8,(lGet (Al (x,58)) (iNat 0) []),(lGet (Al (x,58)) (iNat 1) []))).2.2.1 (bSel (iEq (lLen (Al (x,47))) 2) (bSel (BR (lGet (Al (x,47)) (iNat 0) [])).2 0 (DQ (lGet (Al (x,47)) (iNat 0) []))) (bSel (iEq (lLen (Al (x,45))) 2) (DQ (lGet (Al (x,45)) (iNat 0) [])) 0)))))),(bSel (sEq x [(110:UInt8),111,110,101]) 0 (bSel (sEq x [(112:UInt8),97,115,115]) 0 (bSel (sEq x [(99:UInt8),97,112,115]) 0 (bSel (iEq (lLen (Al (x,58))) 2) (Ed (8,(lGet (Al (x,58)) (iNat 0) []),(lGet (Al (x,58)) (iNat 1) []))).2.2.2 (bSel (iEq (lLen (Al (x,47))) 2) (bSel (BR (lGet (Al (x,47)) (iNat 0) [])).2 (BR (lGet (Al (x,47)) (iNat 0) [])).1 0) (bSel (iEq (lLen (Al (x,45))) 2) 0 0))))))))))))))):=(Ip.o x).trans (by kernel_rfl)
attribute [irreducible] BR Ky Ed Q2 E5 NK
end
section
set_option maxRecDepth 20000
theorem UN(s:List UInt8)(c:Int)(h:s.length≤1048576):NT (s,c)∧Dp (s,c)=A4 s c:=by
 rw[kO,kM]
 have key:=IQ (c:=Hp (s,c)) (f:=Ig (s,c)) (p:=TZ (s,c))
  (fun st=>∃ (out:List (List UInt8)) (F I:Nat),st=(out,(F:Int),(I:Int))∧out.length≤I∧F≤I∧I≤s.length∧(∀ b∈(s.drop F).take (I-F),(b.toNat:Int)≠c)∧A4 s c=out++A4 (s.drop F) c)
  (fun st=>s.length-st.2.2.toNat) (fun st hI=>?_) (x0:=([],0,0)) ⟨[],0,0,rfl,by simp,AH _,Ge _,by simp,rfl⟩
 · obtain⟨k1,⟨out,F,I,e,hl,hFI,hIl,hfree,hs⟩,k2⟩:=key;rw[e] at k2 ⊢;simp only[Hp,Ar,Ap,BL] at k2
   have e2:I=s.length:=by omega
   subst e2;simp only[HD,Ng,FH,AL,Bg,Ay,AJ];have e2:(s.drop F).take (s.length-F)=s.drop F:=Ll (by rw[Pq];exact AH _);rw[e2] at hfree ⊢;exact⟨⟨k1,⟨by omega,hFI,AH _⟩,IP (by omega)⟩,by rw[hs,Mi _ _ hfree]⟩
 · obtain⟨out,F,I,rfl,hl,hFI,hIl,hfree,hs⟩:=hI;simp only[Hp,Ig,TZ,Ar,CV,Ap,AL,Bg,HD,FH,O9,Bp,A6,BL,Ay,AJ]
   have ha:iAdd .i64 (I:Int) 1=((I+1:Nat):Int):=by rw[Cx (by unfold A5;omega)];rfl
   rw[ha];refine⟨⟨fun hlt=>⟨⟨by omega,by omega⟩,fun _=>⟨⟨⟨by omega,by omega⟩,by omega,by omega⟩,IP (by omega)⟩,fun _=>trivial⟩,fun _=>trivial⟩,fun hlt=>?_⟩
   have hlt:I<s.length:=by omega
   by_cases hc:((s.getD I 0).toNat:Int)=c
   · simp only[hc,AE];refine⟨⟨_,I+1,I+1,rfl,by simp;omega,AH _,by omega,by simp,?_⟩,by simp only[Bg];omega⟩;rw[hs]
     conv=>lhs;rw[ah hFI hlt,OL _ _ _ _ hfree hc]
     simp
   · simp only[hc,AU];refine⟨⟨_,F,I+1,rfl,by omega,by omega,by omega,fun b hb=>?_,hs⟩,by simp only[Bg];omega⟩
     have e:(s.drop F).take (I+1-F)=(s.drop F).take (I-F)++[s.getD I 0]:=by
      rw[show I+1-F=(I-F)+1 by omega,SZ,I3,show F+(I-F)=I by omega,Ax hlt,BT,Ax hlt];rfl
     rw[e,B6,List.mem_singleton] at hb;rcases hb with hb|rfl
     · exact hfree b hb
     · exact hc
theorem RB:∀ (s:List UInt8) (c:Int),(A4 s c).length≤s.length+1
 |[],_=>by simp[A4]
 | b::r,c=>by
   have:=RB r c
   unfold A4
   split
   · simp;omega
   · split<;>simp_all<;>omega
theorem U9(s:List UInt8)(c:Int):0<(A4 s c).length:=by
 cases s with
 |nil=>simp[A4]
 |cons b r=>unfold A4;split<;>(try split)<;>simp
theorem cW:∀ (s:List UInt8) (b:UInt8),b ∉ s∨∃ x y,s=x++b::y∧b ∉ x
 |[],b=>.inl (by simp)
 | z :: r,b=>by
   by_cases h:z=b
   · subst h;exact .inr ⟨[],r,rfl,by simp⟩
   · rcases cW r b with h1|⟨x,y,rfl,h2⟩
     · exact .inl (by simp[h1,FG h])
     · exact .inr ⟨z::x,y,rfl,by simp[h2,FG h]⟩
theorem Zg:∀ (s:List UInt8) (b:UInt8),b ∉ s→Lib.indexByte s b=-1
 |[],_,_=>rfl
 | z::r,b,h=>by
   have h1:z≠b:=fun e=>h (by simp[e])
   have h2:=Zg r b (fun e=>h (by simp[e]))
   unfold Lib.indexByte
   rw[Ad (by simpa using h1),h2];rfl
theorem ZV:∀ (x y:List UInt8) (b:UInt8),b ∉ x→Lib.indexByte (x++b::y) b=(x.length:Int)
 |[],y,b,_=>by simp[Lib.indexByte]
 | z::x,y,b,h=>by
   have h1:z≠b:=fun e=>h (by simp[e])
   have h2:=ZV x y b (fun e=>h (by simp[e]))
   rw[BW]
   unfold Lib.indexByte
   rw[Ad (by simpa using h1),h2,Ad (by simp<;>omega),Ay]
   try rfl
theorem R6(s:List UInt8)(b:UInt8)(h:b ∉ s):KI (s,[b])∧BV (s,[b])=(s,[],false):=by
 have hi:DJ (s,[b])=-1:=by rw[TP];exact Zg s b h
 have ho:Jm (s,[b]):=by rw[TQ];rfl
 have e:iGe (-1) 0=false:=by rw[C9];rfl
 rw[Zx,Zl,Yd,Yc,hi,e,Bh];exact⟨⟨ho,fun h=>(by cases h),fun _=>trivial⟩,rfl⟩
theorem W4(x y:List UInt8)(b:UInt8)(h:b ∉ x)(hl:(x++b::y).length≤1048576):KI (x++b::y,[b])∧BV (x++b::y,[b])=(x,y,true):=by
 have hi:DJ (x++b::y,[b])=(x.length:Int):=by rw[TP];exact ZV x y b h
 have ho:Jm (x++b::y,[b]):=by rw[TQ];rfl
 have e:iGe (x.length:Int) 0=true:=by rw[C9];exact Cq (by omega)
 rw[Cz,Ay] at hl
 have ad:iAdd .i64 (x.length:Int) (lLen [b])=((x.length+1:Nat):Int):=by
  rw[Ap,Cx (by unfold A5;simp only[Ay,AJ];omega)];rfl
 rw[Zx,Zl,Yd,Yc,hi,e,Bq];simp only[ad,AL,Bg,HD,Ng,Cz,Ay];refine⟨⟨ho,fun _=>⟨⟨by omega,by omega,by omega⟩,by omega,by omega,by omega⟩,fun h=>(by cases h)⟩,?_⟩
 have e1:((x++b::y).drop 0).take (x.length-0)=x:=by simp
 have e2:(x++b::y).drop (x.length+1)=y:=by
  rw[← List.drop_drop,List.drop_left];rfl
 rw[e1,e2,Ll (by omega)]
theorem Mj(k:Nat)(h:k<56):BE ((k:Int)+1)=Cp.getD k []:=by
 obtain⟨_,n2⟩:=aN;rw[QS,n2]
 have e:iSub .i64 ((k:Int)+1) 1=(k:Int):=by rw[VI (by unfold A5;omega)];omega
 have d:Co ((k:Int)+1,1,56)=true:=by
  simp only[Hr,Az,C9,CS,Ai,A6];omega
 rw[e,d,AB,Bp,BS,AL];rfl
def Dc(x:List UInt8):Nat:=Cp.findIdx (· == x)
theorem Xv(x:List UInt8):Dc x≤56:=List.findIdx_le_length
theorem Xu(x:List UInt8){k:Nat}(h:k<Dc x):Cp.getD k []≠x:=by
 have hl:Cp.length=56:=rfl;have h56:=Xv x
 have hk:k<Cp.length:=by omega
 have:=List.not_of_lt_findIdx h;rw[BT,Ax hk];simpa using this
theorem W3(x:List UInt8)(h:Dc x<56):Cp.getD (Dc x) []=x:=by
 have hl:Cp.length=56:=rfl
 have hk:Dc x<Cp.length:=by omega
 have:=List.findIdx_getElem (w:=hk);rw[BT,Ax hk];exact eq_of_beq this
theorem OB(x:List UInt8):Jv x∧Ju x∧GM x=Cv x:=by
 have hl:Cp.length=56:=rfl;have h56:=Xv x;rw[mE,mP,Zh,mG,Zt]
 have L1:=Eg (c:=Iz x) (f:=Kz) (p:=Kx) (Dc x) (fun k=>(k:Int)+1) (x0:=1) rfl (fun k hk=>by
  have i1:iLe ((k:Int)+1) 56=true:=by rw[CS];exact Cq (by omega)
  have i2:sEq (BE ((k:Int)+1)) x=false:=by rw[Mj k (by omega),B8];simpa using Xu x hk
  simp only[Iz,Kz,Kx,i1,i2,Az,AB]
  exact⟨⟨fun _=>(Oj _).1,fun h=>(by cases h)⟩,rfl,by rw[Cx (by unfold A5;omega)];simp⟩) (by
  simp only[Iz,Kx,Az,AB];refine⟨⟨fun _=>(Oj _).1,fun _=>trivial⟩,?_⟩;rcases Bc (Dc x) 56 with h|h
  · rw[Mj _ h,W3 x h,B8];simp
  · have i1:iLe ((Dc x:Int)+1) 56=false:=by rw[CS];exact C5 (by omega)
    rw[i1];rfl)
 have L2:=Eg (c:=L0 x) (f:=NW) (p:=QO) (Dc x) (fun k=>(k:Int)) (x0:=0) rfl (fun k hk=>by
  have i2:sEq (lGet Cp k []) x=false:=by rw[BS,B8];simpa using Xu x hk
  simp only[L0,NW,QO,QX,AL,Bg,i2,Az,AB,Ar,Ap,hl]
  exact⟨⟨fun _=>⟨⟨by omega,by omega⟩,by omega⟩,fun _=>trivial⟩,by simp;omega,by rw[Cx (by unfold A5;omega)];simp⟩) (by
  simp only[L0,QO,QX,AL,Bg,Az,AB,Ar,Ap,hl,BS,B8,A6];refine⟨⟨fun h=>⟨⟨by omega,by omega⟩,by omega⟩,fun _=>trivial⟩,?_⟩;rcases Bc (Dc x) 56 with h|h
  · rw[W3 x h];simp
  · simp;omega)
 rw[L1.2,L2.2];refine⟨L1.1,⟨trivial,L2.1⟩,?_⟩;rw[QX,Ar,CS,Ap,hl,Bp,Bp,Cx (by unfold A5;omega)];rcases Bc (Dc x) 56 with h|h
 · rw[Ab (Cq (by omega)),Ab (Cq (by omega))]
 · rw[Ad (by simp;omega),Ad (by simp;omega)]
theorem Of(x:List UInt8):Kv x∧Kw x∧Js x=DQ x:=by
 have ec:NI x=Gv x:=by
  funext m;simp only[NI,Gv,(Sf m).2.2.1]
 have ef:Qx=Ii:=rfl
 have key:∀ {p:Int→Prop},(∀ m,p m)→LoopOk (Gv x) Ii p 1:=fun hp=>
  (IQ (fun st=>1≤st∧st≤16) (fun st=>(16-st).toNat) (fun st hI=>⟨hp st,fun hc=>by
   simp only[Gv,Az,CS,Ai,A6] at hc;rw[show Ii st=st+1 by unfold Ii;exact Cx (by unfold A5;omega)]
   omega⟩) (by omega)).1
 rw[kV,kG,YF,kJ,ec,ef];exact⟨key fun m=>⟨fun _=>(Sf m).1,fun _=>trivial⟩,key fun m=>⟨fun _=>(Sf m).2.1,fun _=>trivial⟩,rfl⟩
end
section
set_option maxRecDepth 20000
theorem JD(n:Nat)(h:n<10):Lib.decDigits n=[UInt8.ofNat (48+n)]:=by
 unfold Lib.decDigits;rw[dif_pos h]
theorem ng(n:Int)(h0:0≤n)(h1:n≤3):GB n∧It n∧Fw n=De n∧(De n).length≤1:=by
 obtain⟨k,rfl⟩:∃ k:Nat,n=k:=⟨n.toNat,by omega⟩
 have hk:k=0∨k=1∨k=2∨k=3:=by omega
 have ei:Fw (k:Int)=[UInt8.ofNat (48+k)]:=by
  rw[YC,Us];unfold Lib.itoa;rw[Ad (by omega),Bg,JD k (by omega)]
 have oi:It (k:Int):=by rw[YD,Un];omega
 rw[ei]
 have hne:iNe (0:Int) 0=false:=by rw[CU];rfl
 rw[YJ,YH];rcases K9 k with rfl|hp
 · have e:iEq ((0:Nat):Int) 0=true:=by rw[CV];rfl
   rw[e,Bq];exact⟨⟨fun _=>trivial,fun h=>(by cases h)⟩,oi,rfl,by simp⟩
 · have e:iEq (k:Int) 0=false:=by rw[CV];exact C5 (by omega)
   have e2:iLt (k:Int) 0=false:=by rw[Ar];exact C5 (by omega)
   have e3:iNe (k:Int) 0=true:=by rw[CU];simp;omega
   have hr:iRem (k:Int) 10=(k:Int):=by rw[vc (by omega)];omega
   have hq:iQuo .i64 (k:Int) 10=0:=by rw[tn (by omega) (by unfold A5;omega)];omega
   have hd:rowS [iConv .u8 (iAdd .i64 48 (bSel (iLt (iRem (k:Int) 10) 0) (iNeg .i64 (iRem (k:Int) 10)) (iRem (k:Int) 10)))]=[UInt8.ofNat (48+k)]:=by
    rw[hr,e2,Bh,Cx (by unfold A5;omega),eJ (by omega) (by omega),Wu]
    have:((48:Int)+(k:Int)).toNat=48+k:=by omega
    simp[this]
   have L:=Eg (c:=F3) (f:=Ij) (p:=Ik) 1 (fun j=>if j=0 then ([],(k:Int)) else ([UInt8.ofNat (48+k)],0)) (x0:=([],(k:Int))) rfl (fun j hj=>by
    have:j=0:=by omega
    subst this;simp only[F3,Ij,Ik,hd,hq,e3,JM,AE]
    exact⟨⟨fun _=>⟨by decide,by simp,by decide⟩,fun h=>(by cases h)⟩,trivial,rfl⟩) (by
    simp only[F3,Ik,Ad (show ¬ (1:Nat)=0 by decide),hne]
    exact⟨⟨fun h=>(by cases h),fun _=>trivial⟩,trivial⟩)
   rw[e,e2,Bh,Bh,L.2];exact⟨⟨fun h=>(by cases h),fun _=>⟨L.1,fun h=>(by cases h),fun _=>trivial⟩⟩,oi,rfl,by simp⟩
theorem Vh(k c m n:Int)(h:Cc (k,c,m,n)=true):(0≤k∧k≤10)∧(k=3∨k=4∨k=5∨k=7∨k=9→0≤n∧n≤3):=by
 rw[Um] at h;simp only[Hr,Bp,Ca,Az,CV,C9,CS] at h;by_cases h0:k=0∨k=1∨k=10
 · omega
 · by_cases h2:k=2
   · omega
   · by_cases h3:k=3∨k=4
     · rcases h3 with rfl|rfl<;>simp at h<;>omega
     · by_cases h5:k=5∨k=9
       · rcases h5 with rfl|rfl<;>simp at h<;>omega
       · by_cases h6:k=6
         · omega
         · by_cases h7:k=7
           · subst h7;simp at h;omega
           · by_cases h8:k=8
             · omega
             · have a0:(k=0)=False:=eq_false (by omega);have a1:(k=1)=False:=eq_false (by omega);have a2:(k=10)=False:=eq_false (by omega);have a3:(k=3)=False:=eq_false (by omega);have a4:(k=4)=False:=eq_false (by omega);have a5:(k=5)=False:=eq_false (by omega);have a9:(k=9)=False:=eq_false (by omega);simp[a0,a1,a2,a3,a4,a5,a9,h2,h6,h7,h8] at h
theorem GD(x:Int×Int×Int×Int):LP x∧NG x∧Jo x=AG x∧(AG x).length≤20:=by
 obtain⟨k,c,m,n⟩:=x;obtain⟨c1,c2,c3,c4⟩:=Oj c;obtain⟨m1,m2,m3,m4⟩:=Sf m;have a1:L3 (k,c,m,n):=YA _;have a2:KA (k,c,m,n):=T0 _;rw[jv,jd,TW,jm,← Ov]
 cases hv:Cc (k,c,m,n) with
 | false=>
   rw[AB];simp only[Bool.not_false,Bq];exact⟨⟨a1,fun _=>trivial,fun h=>(by cases h)⟩,⟨a2,fun _=>trivial,fun h=>(by cases h)⟩,by first|rfl|trivial,by simp⟩
 | true=>
   obtain⟨hk,hn⟩:=Vh k c m n hv
   have hn:k=3∨k=4∨k=5∨k=7∨k=9→GB n∧It n∧Fw n=De n∧(De n).length≤1:=fun h=>ng n (hn h).1 (hn h).2
   simp only[AB,G2,Bh,CV,CU,Bp,JM,c3,m3,Zj,Zq,a1,a2];rcases (show k=0∨k=1∨k=2∨k=3∨k=4∨k=5∨k=6∨k=7∨k=8∨k=9∨k=10 by omega) with rfl|rfl|rfl|rfl|rfl|rfl|rfl|rfl|rfl|rfl|rfl
   · simp
   · simp
   · by_cases h0:m=0
     · subst h0;simp[c1,c2,c4];omega
     · simp[h0,c1,c2,m1,m2];omega
   · obtain⟨i1,i2,i3,i4⟩:=hn (by omega);simp[i1,i2,i3];omega
   · obtain⟨i1,i2,i3,i4⟩:=hn (by omega);simp[i1,i2,i3];omega
   · obtain⟨i1,i2,i3,i4⟩:=hn (by omega);simp[i1,i2,i3];omega
   · simp[c1,c2,m1,m2];omega
   · obtain⟨i1,i2,i3,i4⟩:=hn (by omega);simp[i1,i2,i3,c1,c2];omega
   · simp[m1,m2];omega
   · obtain⟨i1,i2,i3,i4⟩:=hn (by omega);simp[i1,i2,i3];omega
   · simp
end
end
end Go.Ag
