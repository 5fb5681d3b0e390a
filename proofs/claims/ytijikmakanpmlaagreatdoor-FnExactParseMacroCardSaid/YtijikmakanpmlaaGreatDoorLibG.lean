/- Part 7 of what FnExactParseMacro needs. No conditions. -/
import Derived.Test.YtijikmakanpmlaaGreatDoorLibF
namespace Go.Ag
set_option linter.unusedSimpArgs false
set_option linter.unusedVariables false
noncomputable section
section
set_option maxRecDepth 8000
def jJ:DCode:=(.seq [2,0] (.region [oa 0 2 (.allocB 0 [(.int .i64 0),(.int .i64 0),(.int .i64 0)]),oa 1 3 (.mv (.c (.bool false)))]) (.seq [2,0] (.seq [14,2,0] (.region [om 0 7 0,oa 1 8 (.lenT (.t 7)),oa 2 9 (.bin .lss (.t 8) (.c (.int .i64 3))),om 3 10 9,og 4 11 (.mv (.t 0)) 10 false,og 5 12 (.index (.t 11) (.c (.int .i64 1))) 10 false,og 6 13 (.bin .neq (.t 12) (.c (.int .u8 61))) 10 false,oa 7 14 (.pick (.t 10) (.c (.bool true)) (.t 13))]) (.cond (.t 14) (.seq [3,2] (.region [oa 0 15 (.build [(.int .i64 0),(.int .i64 0),(.int .i64 0)] []),os 1 (.storeB 0 3 (.t 2) (.t 15)),oa 2 3 (.mv (.c (.bool false)))]) .ret) .skip)) (.seq [2] (.seq [4,2,0] (.region [oi 0 4 0]) (.block 0 (.loop [0,2,4] 1 (.seq [4,2,0] (.seq [17,4,2,0] (.region [om 0 16 4,oa 1 17 (.bin .lss (.t 16) (.c (.int .i64 3)))]) (.cond (.t 17) .skip (.exit 0))) (.seq [4,2,0] (.block 1 (.seq [24,4,2,0] (.region [om 0 20 0,xA 1 21 (.index (.t 20) (.c (.int .i64 0))) (rg 1),om 2 22 4,xA 3 23 (.index (.c (.str [116,100,117])) (.t 22)) [2],xA 4 24 (.bin .eql (.t 21) (.t 23)) (rg 4)]) (.cond (.t 24) (.seq [6,5,4,2] (.region [om 0 26 0,oa 1 27 (.substr (.t 26) (some (.c (.int .i64 2))) none),oF 2 28 H9 [(.t 27)],om 3 25 28,oa 4 29 (.extract (.t 25) 0),oa 5 30 (.extract (.t 25) 1),oa 6 5 (.allocB 1 [(.int .i64 0),(.int .i64 0),(.int .i64 0),(.int .i64 0)]),os 7 (.storeB 1 4 (.t 5) (.t 29)),om 8 6 30]) (.seq [3,2] (.region [om 0 31 4,oa 1 32 (.fieldA 1 (.t 5)),xB 2 33 (.loadB 1 none (.t 32)) [1],oa 3 34 (.fieldA 2 (.t 5)),xB 4 35 (.loadB 1 none (.t 34)) [3],xA 5 36 (.build [(.int .i64 0),(.int .i64 0),(.int .i64 0)] [(0,1,(.t 31)),(1,1,(.t 33)),(2,1,(.t 35))]) (rg 5),om 6 37 6,xA 7 38 (.mv (.t 37)) [6],⟨8,some 39,.a false (.fieldA 0 (.t 5)) none,(some (38,true)),[6,7]⟩,⟨9,some 40,.a false (.loadB 1 none (.t 39)) none,(some (38,true)),[6,7,8]⟩,⟨10,some 41,.a false (.bin .eql (.t 40) (.c (.int .i64 2))) none,(some (38,true)),[6,7,8,9]⟩,xA 11 42 (.pick (.t 38) (.t 41) (.c (.bool false))) [6,7,8,9,10],xS 12 (.storeB 0 3 (.t 2) (.t 36)) [0,1,2,3,4,5,6,7],xA 13 3 (.mv (.t 42)) (rg 13)]) .ret)) .skip))) (.region [om 0 18 4,oa 1 19 (.bin .add (.t 18) (.c (.int .i64 1))),om 2 4 19])))))) (.seq [3,2] (.region [oa 0 43 (.build [(.int .i64 0),(.int .i64 0),(.int .i64 0)] []),os 1 (.storeB 0 3 (.t 2) (.t 43)),oa 2 3 (.mv (.c (.bool false)))]) .ret))))
def Im:Fn:=⟨⟨1,44,2,true,[.cell 2 (some 3),.tmp 3],jJ⟩,[.one .frz (.str)],.tup [.agg [(.own,.int .i64),(.own,.int .i64),(.own,.int .i64)],.one .own (.bool)]⟩
theorem jT:Im.A:=A7 ⟨fQ,trivial⟩
def D9:List UInt8→(Int×Int×Int)×Bool:=Im.V
def Qm:List UInt8→Prop:=Im.O
theorem jw:Im.B:=A8 ⟨gC,trivial⟩ (by kernel_rfl) (fun x=>by kernel_rfl)
def gH:DCode:=(.seq [0] (.region [oa 0 2 (.mv (.c .nils)),oa 1 3 (.mv (.c (.bool false)))]) (.seq [4,0] (.region [⟨0,some 9,.a false (.litSlice 3 0 [] []) (some B8),none,[]⟩,om 1 4 9]) (.seq [4,0] (.seq [11,4,0] (.region [om 0 10 0,oa 1 11 (.bin .eql (.t 10) (.c (.str [])))]) (.cond (.t 11) (.seq [3,2] (.region [om 0 12 4,om 1 2 12,oa 2 3 (.mv (.c (.bool true)))]) .ret) .skip)) (.seq [5,4] (.region [om 0 13 0,oF 1 14 DJ [(.t 13),(.c (.int .u8 32))],on 2 5 14]) (.seq [5,4] (.seq [6,5,4] (.region [oi 0 6 0]) (.block 0 (.loop [4,5,6] 1 (.seq [6,5,4] (.seq [23,6,5,4] (.region [om 0 15 6,on 1 16 5,oa 2 17 (.len (.t 16)),oa 3 18 (.bin .lss (.t 15) (.t 17)),om 4 19 18,⟨5,some 20,.a true (.mv (.t 5)) none,(some (19,true)),[]⟩,og 6 21 (.len (.t 20)) 19 true,og 7 22 (.bin .leq (.t 21) (.c (.int .i64 8))) 19 true,oa 8 23 (.pick (.t 19) (.t 22) (.c (.bool false)))]) (.cond (.t 23) .skip (.exit 0))) (.seq [6,5,4] (.block 1 (.seq [8,7,6,5,4] (.region [on 0 27 5,om 1 28 6,oa 2 29 (.indexA 1 (.t 27) (.t 28)),oa 3 30 (.loadH none (.t 29)),oF 4 31 Im [(.t 30)],om 5 26 31,oa 6 32 (.extract (.t 26) 0),oa 7 33 (.extract (.t 26) 1),oa 8 7 (.allocB 0 [(.int .i64 0),(.int .i64 0),(.int .i64 0)]),os 9 (.storeB 0 3 (.t 7) (.t 32)),om 10 8 33]) (.seq [7,6,5,4] (.seq [35,7,6,5,4] (.region [om 0 34 8,oa 1 35 (.un .not (.t 34))]) (.cond (.t 35) (.seq [3,2] (.region [⟨0,some 36,.a false (.litSlice 3 0 [] []) (some B8),none,[]⟩,om 1 2 36,oa 2 3 (.mv (.c (.bool false)))]) .ret) .skip)) (.region [om 0 37 4,ob 1 38 (.loadB 0 (some 3) (.t 7)),⟨2,some 39,.a false (.litSlice 3 1 [(.int .i64 0),(.int .i64 0),(.int .i64 0)] [(0,3,(.t 38))]) (some B8),none,[]⟩,oa 3 40 (.app 3 (.t 37) (.t 39)),om 4 4 40])))) (.region [om 0 24 6,oa 1 25 (.bin .add (.t 24) (.c (.int .i64 1))),om 2 6 25])))))) (.seq [4] (.seq [48,4] (.region [on 0 41 5,oa 1 42 (.len (.t 41)),oa 2 43 (.bin .gtr (.t 42) (.c (.int .i64 8))),om 3 44 43,⟨4,some 45,.a true (.mv (.t 4)) none,(some (44,false)),[]⟩,⟨5,some 46,.call false E1.S E1.P E1.D [(.t 45)],(some (44,false)),[]⟩,og 6 47 (.un .not (.t 46)) 44 false,oa 7 48 (.pick (.t 44) (.c (.bool true)) (.t 47))]) (.cond (.t 48) (.seq [3,2] (.region [⟨0,some 49,.a false (.litSlice 3 0 [] []) (some B8),none,[]⟩,om 1 2 49,oa 2 3 (.mv (.c (.bool false)))]) .ret) .skip)) (.seq [3,2] (.region [om 0 50 4,om 1 2 50,oa 2 3 (.mv (.c (.bool true)))]) .ret)))))))
def Ie:Fn:=⟨⟨1,51,1,false,[.tmp 2,.tmp 3],gH⟩,[.one .frz (.str)],.tup [.one .own (.sl B8),.one .own (.bool)]⟩
theorem gD:Ie.A:=A7 ⟨Ng,jT,jz,trivial⟩
def CB:List UInt8→(List (Int×Int×Int))×Bool:=Ie.V
def PZ:List UInt8→Prop:=Ie.O
theorem gG:Ie.B:=A8 ⟨Ni,jw,jR,trivial⟩ (by kernel_rfl) (fun x=>by kernel_rfl)
def gP:DCode:=(.seq [0] (.region [oa 0 2 (.mv (.c .nils)),oa 1 3 (.mv (.c (.bool false)))]) (.seq [0] (.seq [14,0] (.region [om 0 13 0,oa 1 14 (.bin .eql (.t 13) (.c (.str [])))]) (.cond (.t 14) (.seq [3,2] (.region [oa 0 2 (.mv (.c .nils)),oa 1 3 (.mv (.c (.bool true)))]) .ret) .skip)) (.seq [4,0] (.region [oa 0 4 (.mv (.c .nils))]) (.seq [4,0] (.seq [18,17,16,4,0] (.region [om 0 15 0,oF 1 16 Ih [(.t 15),(.c (.int .u8 32))],oa 2 17 (.len (.t 16)),oi 3 18 0]) (.block 0 (.loop [0,4,16,17,18] 1 (.seq [19,18,17,16,4,0] (.region [oa 0 19 (.bin .lss (.t 18) (.t 17))]) (.seq [18,17,16,4,0] (.cond (.t 19) .skip (.exit 0)) (.seq [18,17,16,4,0] (.block 1 (.seq [18,17,16,6,4,0] (.region [oa 0 20 (.indexA 1 (.t 16) (.t 18)),oa 1 21 (.loadH none (.t 20)),om 2 6 21]) (.seq [18,17,16,9,8,7,4,0] (.region [om 0 23 6,oF 1 24 Fu [(.t 23),(.c (.str [61]))],om 2 22 24,oa 3 25 (.extract (.t 22) 0),oa 4 26 (.extract (.t 22) 1),oa 5 27 (.extract (.t 22) 2),om 6 7 25,om 7 8 26,om 8 9 27]) (.seq [18,17,16,11,10,9,7,4,0] (.region [om 0 29 8,oF 1 30 Ia [(.t 29)],om 2 28 30,oa 3 31 (.extract (.t 28) 0),oa 4 32 (.extract (.t 28) 1),oa 5 10 (.allocB 0 [(.int .i64 0),(.int .i64 0),(.int .i64 0),(.int .i64 0)]),os 6 (.storeB 0 4 (.t 10) (.t 31)),om 7 11 32]) (.seq [18,17,16,12,11,10,9,7,4,0] (.region [om 0 33 7,oc 1 34 Ny Nw X8 [(.c (.str [116,100,117])),(.t 33)],om 2 12 34]) (.seq [18,17,16,12,10,4,0] (.seq [54,18,17,16,12,10,4,0] (.region [om 0 35 9,oa 1 36 (.un .not (.t 35)),om 2 37 36,og 3 38 (.mv (.t 11)) 37 false,og 4 39 (.un .not (.t 38)) 37 false,oa 5 40 (.pick (.t 37) (.c (.bool true)) (.t 39)),om 6 41 40,og 7 42 (.fieldA 0 (.t 10)) 41 false,og 8 43 (.loadB 0 none (.t 42)) 41 false,og 9 44 (.bin .neq (.t 43) (.c (.int .i64 2))) 41 false,oa 10 45 (.pick (.t 41) (.c (.bool true)) (.t 44)),om 11 46 45,og 12 47 (.mv (.t 7)) 46 false,og 13 48 (.lenT (.t 47)) 46 false,og 14 49 (.bin .neq (.t 48) (.c (.int .i64 1))) 46 false,oa 15 50 (.pick (.t 46) (.c (.bool true)) (.t 49)),om 16 51 50,og 17 52 (.mv (.t 12)) 51 false,og 18 53 (.bin .lss (.t 52) (.c (.int .i64 0))) 51 false,oa 19 54 (.pick (.t 51) (.c (.bool true)) (.t 53))]) (.cond (.t 54) (.seq [3,2] (.region [oa 0 2 (.mv (.c .nils)),oa 1 3 (.mv (.c (.bool false)))]) .ret) .skip)) (.region [om 0 55 4,om 1 56 12,oa 2 57 (.fieldA 1 (.t 10)),ob 3 58 (.loadB 0 none (.t 57)),oa 4 59 (.fieldA 2 (.t 10)),ob 5 60 (.loadB 0 none (.t 59)),oa 6 61 (.build [(.int .i64 0),(.int .i64 0),(.int .i64 0)] [(0,1,(.t 56)),(1,1,(.t 58)),(2,1,(.t 60))]),⟨7,some 62,.a false (.litSlice 3 1 [(.int .i64 0),(.int .i64 0),(.int .i64 0)] [(0,3,(.t 61))]) (some B8),none,[]⟩,oa 8 63 (.app 3 (.t 55) (.t 62)),om 9 4 63]))))))) (.region [oa 0 64 (.bin .add (.t 18) (.c (.int .i64 1))),om 1 18 64]))))))) (.seq [4] (.seq [73,4] (.region [on 0 65 4,oF 1 66 GB [(.t 65)],oa 2 67 (.un .not (.t 66)),om 3 68 67,⟨4,some 69,.a true (.mv (.t 4)) none,(some (68,false)),[]⟩,⟨5,some 70,.call false Gu.S Gu.P Gu.D [(.t 69)],(some (68,false)),[]⟩,og 6 71 (.mv (.t 0)) 68 false,og 7 72 (.bin .neq (.t 70) (.t 71)) 68 false,oa 8 73 (.pick (.t 68) (.c (.bool true)) (.t 72))]) (.cond (.t 73) (.seq [3,2] (.region [oa 0 2 (.mv (.c .nils)),oa 1 3 (.mv (.c (.bool false)))]) .ret) .skip)) (.seq [3,2] (.region [om 0 74 4,om 1 2 74,oa 2 3 (.mv (.c (.bool true)))]) .ret))))))
def Gw:Fn:=⟨⟨1,75,1,false,[.tmp 2,.tmp 3],gP⟩,[.one .frz (.str)],.tup [.one .own (.sl B8),.one .own (.bool)]⟩
theorem Xm:Gw.A:=A7 ⟨ik,TD,gb,iS,XW,gg,trivial⟩
def BM:List UInt8→(List (Int×Int×Int))×Bool:=Gw.V
def Nd:List UInt8→Prop:=Gw.O
theorem Xn:Gw.B:=A8 ⟨iy,TG,gd,jc,XT,fR,trivial⟩ (by kernel_rfl) (fun x=>by kernel_rfl)
def XD:ACode:=(.seq (.region [⟨0,some 4,.mv (.c (.int .i64 0)),none,[]⟩]) (.seq (.seq (.region [⟨0,some 5,.mv (.c (.int .i64 0)),none,[]⟩]) (.block 0 (.loop [0,1,5] (.seq (.seq (.region [⟨0,some 6,.mv (.t 5),none,[]⟩,⟨1,some 7,.mv (.t 0),none,[]⟩,⟨2,some 8,.len (.t 7),none,[]⟩,⟨3,some 9,.bin .lss (.t 6) (.t 8),none,[]⟩]) (.cond (.t 9) .skip (.exit 0))) (.seq (.block 1 (.seq (.region [⟨0,some 12,.mv (.t 0),none,[]⟩,⟨1,some 13,.mv (.t 5),none,[]⟩,⟨2,some 14,.mv (.t 1),none,[]⟩,⟨3,some 15,.indexA 3 (.t 12) (.t 13),none,[]⟩,⟨4,some 16,.fieldA 0 (.t 15),none,[]⟩,⟨5,none,.storeH 1 (.t 16) (.t 14),none,[]⟩]) (.seq (.region [⟨0,some 17,.mv (.t 1),none,[]⟩,⟨1,some 18,.bin .add (.t 17) (.c (.int .i64 1)),none,[]⟩,⟨2,some 1,.mv (.t 18),none,[]⟩]) (.seq (.region [⟨0,some 19,.mv (.t 0),none,[]⟩,⟨1,some 20,.mv (.t 5),none,[]⟩,⟨2,some 21,.mv (.t 1),none,[]⟩,⟨3,some 22,.indexA 3 (.t 19) (.t 20),none,[]⟩,⟨4,some 23,.fieldA 1 (.t 22),none,[]⟩,⟨5,none,.storeH 1 (.t 23) (.t 21),none,[]⟩]) (.seq (.region [⟨0,some 24,.mv (.t 1),none,[]⟩,⟨1,some 25,.bin .add (.t 24) (.c (.int .i64 1)),none,[]⟩,⟨2,some 1,.mv (.t 25),none,[]⟩]) (.seq (.region [⟨0,some 26,.mv (.t 0),none,[]⟩,⟨1,some 27,.mv (.t 5),none,[]⟩,⟨2,some 28,.mv (.t 1),none,[]⟩,⟨3,some 29,.indexA 3 (.t 26) (.t 27),none,[]⟩,⟨4,some 30,.fieldA 2 (.t 29),none,[]⟩,⟨5,none,.storeH 1 (.t 30) (.t 28),none,[]⟩]) (.region [⟨0,some 31,.mv (.t 1),none,[]⟩,⟨1,some 32,.bin .add (.t 31) (.c (.int .i64 1)),none,[]⟩,⟨2,some 1,.mv (.t 32),none,[]⟩]))))))) (.region [⟨0,some 10,.mv (.t 5),none,[]⟩,⟨1,some 11,.bin .add (.t 10) (.c (.int .i64 1)),none,[]⟩,⟨2,some 5,.mv (.t 11),none,[]⟩])))))) (.seq (.region [⟨0,some 33,.mv (.t 1),none,[]⟩,⟨1,some 4,.mv (.t 33),none,[]⟩]) .ret)))
def Tp:AFun:=⟨2,34,0,false,[.tmp 4],XD⟩
@[irreducible] def Jc:Be:=Mq Tp
@[irreducible] def Cy(x:List (Int×Int×Int))(m:Int):(List (Int×Int×Int))×Int:=(shut fun(x:List (Int×Int×Int)) (m:Int)=>BO (RT.mkI B8) x m).1 x m
@[irreducible] def Lv(x:List (Int×Int×Int)):Prop:=(shut fun(x:List (Int×Int×Int))=>CT.wl (.sl B8) x).1 x
theorem Xl:Cy=fun x m=>BO (RT.mkI B8) x m:=by unfold Cy;exact(shut _).2
theorem Xk:Lv=fun x=>CT.wl (.sl B8) x:=by unfold Lv;exact(shut _).2
theorem ig:SlC Jc B8:=by
 rintro h ω hd p l u m Q hok hinj hM hQ;have hn:=hM.len;have hlb:l.length≤9223372036854775807:=hok.1;unfold Jc;refine oB rfl ?_;unfold XD;simp only[go_sem,reduceIte,reduceCtorEq,Nat.reduceAdd,Nat.reduceBEq,Int.reduceLT,Int.reduceLE,Int.reduceGT,Int.reduceGE,Int.reduceBEq,Int.reduceBNe,Nat.reduceEqDiff,Nat.reduceLeDiff,Nat.reduceLT,hn];refine tY l.length (fun i st=>∃ h',st=⟨[u,.int .i64 (BZ (RT.mkI B8) l m i).2,.undef,.undef,.undef,.int .i64 (i:Int)]++Gn 28,[],h'⟩∧Only (JQ ω hd p) h h'∧MS h' ω hd p B8 (BZ (RT.mkI B8) l m i).1 u) ?_ ?_
 · refine⟨h,?_,Only.refl _ _,hM⟩;simp only[ZV,keep,Int.natCast_zero];rfl
 · rintro i st next hi ⟨h1,rfl,hO,hR⟩ hnx
   by_cases hlt:i<l.length
   · have hc:decide ((i:Int)<(l.length:Int))=true:=BI (by omega)
     have hw:IntKind.i64.wrap ((i:Int)+1)=((i+1:Nat):Int):=by rw[eH (by omega)];omega
     obtain⟨b,hub⟩:=hR.slice (by rw[Q7];omega);rw[Q7] at hub;subst hub
     cases hL:BZ (RT.mkI B8) l m i with
     |mk L k0=>
     rw[hL] at hR;obtain⟨hLl,hs,hx0⟩:=mU hlt hL
     have hiL:i<L.length:=by omega
     have hwx:=uB hok hlt;rw[← hx0] at hwx;have R0:=MS.frame hR hiL;clear hx0;generalize hx0:List.getD L i (RT.dflt B8)=x0 at R0 hs hwx;clear hx0;have hx:=tT (b:=b) (w:=3) hlt (k:=.i64);simp only;obtain⟨h2,s0,o0,R1⟩:=MS.st R0 hiL (off:=0) (by decide) (v:=(.int .i64 k0)) rfl rfl (y:=((k0,x0.2.1,x0.2.2):RT.D B8)) rfl hinj [];replace s0:Js [] h1 1 (.ptr b (i*3)) (.int .i64 k0)=some (.undef,[],h2):=s0;obtain⟨h3,s1,o1,R2⟩:=MS.st R1 hiL (off:=1) (by decide) (v:=(.int .i64 (IntKind.i64.wrap (k0+1)))) rfl rfl (y:=((k0,(IntKind.i64.wrap (k0+1)),x0.2.2):RT.D B8)) rfl hinj [];replace s1:Js [] h2 1 (.ptr b (i*3+1)) (.int .i64 (IntKind.i64.wrap (k0+1)))=some (.undef,[],h3):=s1;obtain⟨h4,s2,o2,R3⟩:=MS.st R2 hiL (off:=2) (by decide) (v:=(.int .i64 (IntKind.i64.wrap (IntKind.i64.wrap (k0+1)+1)))) rfl rfl (y:=((k0,(IntKind.i64.wrap (k0+1)),(IntKind.i64.wrap (IntKind.i64.wrap (k0+1)+1))):RT.D B8)) rfl hinj [];replace s2:Js [] h3 1 (.ptr b (i*3+2)) (.int .i64 (IntKind.i64.wrap (IntKind.i64.wrap (k0+1)+1)))=some (.undef,[],h4):=s2;simp only[go_sem,reduceIte,reduceCtorEq,Nat.reduceAdd,Nat.reduceBEq,Int.reduceLT,Int.reduceLE,Int.reduceGT,Int.reduceGE,Int.reduceBEq,Int.reduceBNe,Nat.reduceEqDiff,Nat.reduceLeDiff,Nat.reduceLT,hn,hc,hw,hx,s0,s1,s2];exact hnx _ hlt ⟨h4,by rw[hs];rfl,(Only.trans (Only.trans (Only.trans hO o0) o1) o2),by rw[hs];exact R3⟩
   · have hc:decide ((i:Int)<(l.length:Int))=false:=Cz (by omega)
     have hi':i=l.length:=by omega
     subst hi';simp only[go_sem,reduceIte,reduceCtorEq,Nat.reduceAdd,Nat.reduceBEq,Int.reduceLT,Int.reduceLE,Int.reduceGT,Int.reduceGE,Int.reduceBEq,Int.reduceBNe,Nat.reduceEqDiff,Nat.reduceLeDiff,Nat.reduceLT,hn,hc];have e:=Oe (RT.mkI B8) l m;rw[e] at hR ⊢;exact hQ h1 hO hR
theorem iF:O7 Jc (eW B8).P:=SlC.sound ig
def Tu:DMk:=⟨.one (.sl B8),false,Lv,Cy,false⟩
theorem gT:O7 Jc (DMk.P Tu):=by unfold Tu;rw[Xk,Xl];exact iF
def ir:DCode:=(.seq [1,0] (.region [oi 0 4 0]) (.seq [1] (.seq [5,1,0] (.region [oi 0 5 0]) (.block 0 (.loop [0,1,5] 1 (.seq [5,1,0] (.seq [9,5,1,0] (.region [om 0 6 5,on 1 7 0,oa 2 8 (.len (.t 7)),oa 3 9 (.bin .lss (.t 6) (.t 8))]) (.cond (.t 9) .skip (.exit 0))) (.seq [5,1,0] (.block 1 (.seq [5,1,0] (.seq [18,5,1,0] (.region [on 0 12 0,om 1 13 5,oa 2 14 (.indexA 3 (.t 12) (.t 13)),oa 3 15 (.fieldA 0 (.t 14)),oa 4 16 (.loadH none (.t 15)),om 5 17 1,oa 6 18 (.bin .neq (.t 16) (.t 17))]) (.cond (.t 18) (.seq [4] (.region [oi 0 4 (-1)]) .ret) .skip)) (.seq [5,1,0] (.region [om 0 19 1,oa 1 20 (.bin .add (.t 19) (.c (.int .i64 1))),om 2 1 20]) (.seq [5,1,0] (.seq [27,5,1,0] (.region [on 0 21 0,om 1 22 5,oa 2 23 (.indexA 3 (.t 21) (.t 22)),oa 3 24 (.fieldA 1 (.t 23)),oa 4 25 (.loadH none (.t 24)),om 5 26 1,oa 6 27 (.bin .neq (.t 25) (.t 26))]) (.cond (.t 27) (.seq [4] (.region [oi 0 4 (-1)]) .ret) .skip)) (.seq [5,1,0] (.region [om 0 28 1,oa 1 29 (.bin .add (.t 28) (.c (.int .i64 1))),om 2 1 29]) (.seq [5,1,0] (.seq [36,5,1,0] (.region [on 0 30 0,om 1 31 5,oa 2 32 (.indexA 3 (.t 30) (.t 31)),oa 3 33 (.fieldA 2 (.t 32)),oa 4 34 (.loadH none (.t 33)),om 5 35 1,oa 6 36 (.bin .neq (.t 34) (.t 35))]) (.cond (.t 36) (.seq [4] (.region [oi 0 4 (-1)]) .ret) .skip)) (.region [om 0 37 1,oa 1 38 (.bin .add (.t 37) (.c (.int .i64 1))),om 2 1 38]))))))) (.region [om 0 10 5,oa 1 11 (.bin .add (.t 10) (.c (.int .i64 1))),om 2 5 11])))))) (.seq [4] (.region [om 0 39 1,om 1 4 39]) .ret)))
def Gx:Fn:=⟨⟨2,40,0,true,[.tmp 4],ir⟩,[.one .frz (.sl B8),.one .frz (.int .i64)],.one (.one .own (.int .i64))⟩
theorem Xr:Gx.A:=A7 trivial
def Gy:(List (Int×Int×Int))×Int→Int:=Gx.V
def Nh:(List (Int×Int×Int))×Int→Prop:=Gx.O
theorem Xv:Gx.B:=A8 trivial (by kernel_rfl) (fun x=>by kernel_rfl)
def fE:DCode:=(.seq [0] (.region [oa 0 2 (.mv (.c (.bool false)))]) (.seq [0] (.seq [13,0] (.region [om 0 11 0,oa 1 12 (.lenT (.t 11)),oa 2 13 (.bin .gtr (.t 12) (.c (.int .i64 1048576)))]) (.cond (.t 13) (.seq [2] (.region [oa 0 2 (.mv (.c (.bool true)))]) .ret) .skip)) (.seq [4,3,0] (.region [om 0 15 0,oF 1 16 Ie [(.t 15)],om 2 14 16,oa 3 17 (.extract (.t 14) 0),oa 4 18 (.extract (.t 14) 1),on 5 3 17,om 6 4 18]) (.seq [6,5,4,3,0] (.region [om 0 20 0,oF 1 21 Gw [(.t 20)],om 2 19 21,oa 3 22 (.extract (.t 19) 0),oa 4 23 (.extract (.t 19) 1),om 5 5 22,om 6 6 23]) (.seq [5,4,3,0] (.seq [32,5,4,3,0] (.region [on 0 24 5,on 1 25 3,oF 2 26 GC [(.t 24),(.t 25)],oa 3 27 (.un .not (.t 26)),om 4 28 27,og 5 29 (.mv (.t 6)) 28 false,og 6 30 (.mv (.t 4)) 28 false,og 7 31 (.eqB true (.t 29) (.t 30)) 28 false,oa 8 32 (.pick (.t 28) (.c (.bool true)) (.t 31))]) (.cond (.t 32) (.seq [2] (.region [oa 0 2 (.mv (.c (.bool false)))]) .ret) .skip)) (.seq [7,5,4,3,0] (.region [oi 0 7 1]) (.seq [7,5,4,3,0] (.region [on 0 33 5,om 1 34 7,⟨2,some 35,.mark Jc Tu (.t 33) (.t 34),none,[]⟩,om 3 7 35]) (.seq [8,7,5,4,3,0] (.region [oi 0 8 1]) (.seq [8,7,5,4,3,0] (.region [on 0 36 5,om 1 37 8,oF 2 38 Gx [(.t 36),(.t 37)],om 3 8 38]) (.seq [8,7,5,4,3,0] (.seq [40,8,7,5,4,3,0] (.region [om 0 39 8,oa 1 40 (.bin .lss (.t 39) (.c (.int .i64 0)))]) (.cond (.t 40) (.seq [2] (.region [oa 0 2 (.mv (.c (.bool false)))]) .ret) .skip)) (.seq [7,5,4,3,0] (.seq [43,7,5,4,3,0] (.region [om 0 41 8,om 1 42 7,oa 2 43 (.bin .neq (.t 41) (.t 42))]) (.cond (.t 43) (.seq [2] (.region [oa 0 2 (.mv (.c (.bool false)))]) .ret) .skip)) (.seq [10,9,7,5,4,3] (.region [om 0 45 0,oF 1 46 Gw [(.t 45)],om 2 44 46,oa 3 47 (.extract (.t 44) 0),oa 4 48 (.extract (.t 44) 1),on 5 9 47,om 6 10 48]) (.seq [7,5] (.seq [57,7,5] (.region [on 0 49 9,on 1 50 3,oF 2 51 GC [(.t 49),(.t 50)],oa 3 52 (.un .not (.t 51)),om 4 53 52,og 5 54 (.mv (.t 10)) 53 false,og 6 55 (.mv (.t 4)) 53 false,og 7 56 (.eqB true (.t 54) (.t 55)) 53 false,oa 8 57 (.pick (.t 53) (.c (.bool true)) (.t 56))]) (.cond (.t 57) (.seq [2] (.region [oa 0 2 (.mv (.c (.bool false)))]) .ret) .skip)) (.seq [8,7,5] (.region [oi 0 8 1]) (.seq [8,7] (.region [on 0 58 5,om 1 59 8,oF 2 60 Gx [(.t 58),(.t 59)],om 3 8 60]) (.seq [8,7] (.seq [62,8,7] (.region [om 0 61 8,oa 1 62 (.bin .lss (.t 61) (.c (.int .i64 0)))]) (.cond (.t 62) (.seq [2] (.region [oa 0 2 (.mv (.c (.bool false)))]) .ret) .skip)) (.seq [] (.seq [65] (.region [om 0 63 8,om 1 64 7,oa 2 65 (.bin .neq (.t 63) (.t 64))]) (.cond (.t 65) (.seq [2] (.region [oa 0 2 (.mv (.c (.bool false)))]) .ret) .skip)) (.seq [2] (.region [oa 0 2 (.mv (.c (.bool true)))]) .ret))))))))))))))))))
def F0:Fn:=⟨⟨1,66,0,true,[.tmp 2],fE⟩,[.one .frz (.str)],.one (.one .own (.bool))⟩
theorem fD:F0.A:=A7 ⟨gD,Xm,XZ,gT,Xr,Xm,XZ,Xr,trivial⟩
def PK:List UInt8→Bool:=F0.V
def PJ:List UInt8→Prop:=F0.O
end
section
set_option maxRecDepth 100000
def Hf(x:List UInt8)(x0:Int):Bool:=(bAnd (iLt x0 3) (bNot (iEq (sGet x 0) (sGet [(116:UInt8),100,117] x0))))
def Ic(x0:Int):Int:=(iAdd .i64 x0 1)
def Nj(x:List UInt8)(x0:Int):Prop:=(((iLt x0 3)=true→((((0:Int)≤0)∧((0:Int)<(((List.length x):Int))))∧((((0:Int)≤x0)∧(x0<(((List.length [(116:UInt8),100,117]):Int))))∧(((iEq (sGet x 0) (sGet [(116:UInt8),100,117] x0))=true→((((0:Int)≤2)∧(((iNat 2)≤(lN x))∧((lN x)≤(List.length x))))∧(Nc (lSub x (iNat 2) (lN x)))))∧((iEq (sGet x 0) (sGet [(116:UInt8),100,117] x0))=false→True)))))∧((iLt x0 3)=false→True))
theorem Qo (x):D9 x=(bSel (bOr (iLt (lLen x) 3) (iNe (sGet x 1) 61)) ((0,0,0),false) (bSel (iLt (An (Hf x) Ic 0) 3) (((bSel (CH (lSub x (iNat 2) (lN x))).2 (An (Hf x) Ic 0) (An (Hf x) Ic 0)),(bSel (CH (lSub x (iNat 2) (lN x))).2 (CH (lSub x (iNat 2) (lN x))).1.2.1 (CH (lSub x (iNat 2) (lN x))).1.2.1),(bSel (CH (lSub x (iNat 2) (lN x))).2 (CH (lSub x (iNat 2) (lN x))).1.2.2.1 (CH (lSub x (iNat 2) (lN x))).1.2.2.1)),(bAnd (CH (lSub x (iNat 2) (lN x))).2 (iEq (CH (lSub x (iNat 2) (lN x))).1.1 2))) ((0,0,0),false))):=(Im.v x).trans (by kernel_rfl)
theorem jP (x):Qm x=((((iLt (lLen x) 3)=true→True)∧((iLt (lLen x) 3)=false→(((0:Int)≤1)∧((1:Int)<(((List.length x):Int))))))∧(((bOr (iLt (lLen x) 3) (iNe (sGet x 1) 61))=true→True)∧((bOr (iLt (lLen x) 3) (iNe (sGet x 1) 61))=false→(LoopOk (Hf x) Ic (Nj x) 0)))):=(Im.o x).trans (by kernel_rfl)
def D7(x:List UInt8)(x0:((List (Int×(Int×Int)))×Int)):Bool:=(bAnd (bAnd (iLt x0.2 (lLen (Al (x,32)))) (iLe (lLen (Al (x,32))) 8)) (bNot (bNot (D9 (lGet (Al (x,32)) (iNat x0.2) [])).2)))
def Fh(x:List UInt8)(x0:((List (Int×(Int×Int)))×Int)):((List (Int×(Int×Int)))×Int):=((lApp x0.1 [(D9 (lGet (Al (x,32)) (iNat x0.2) [])).1]),(iAdd .i64 x0.2 1))
def Hc(x:List UInt8)(x0:((List (Int×(Int×Int)))×Int)):Prop:=(((bAnd (iLt x0.2 (lLen (Al (x,32)))) (iLe (lLen (Al (x,32))) 8))=true→((((0:Int)≤x0.2)∧(x0.2<(((List.length (Al (x,32))):Int))))∧(((iNat x0.2)<(List.length (Al (x,32))))∧((Qm (lGet (Al (x,32)) (iNat x0.2) []))∧(((bNot (D9 (lGet (Al (x,32)) (iNat x0.2) [])).2)=true→True)∧((bNot (D9 (lGet (Al (x,32)) (iNat x0.2) [])).2)=false→(A5 (((List.length x0.1)+(List.length [(D9 (lGet (Al (x,32)) (iNat x0.2) [])).1]))*3))))))))∧((bAnd (iLt x0.2 (lLen (Al (x,32)))) (iLe (lLen (Al (x,32))) 8))=false→True))
theorem gU (x):CB x=(bSel (sEq x []) ([],true) (bSel (bAnd (iLt (An (D7 x) (Fh x) ([],0)).2 (lLen (Al (x,32)))) (iLe (lLen (Al (x,32))) 8)) ([],false) (bSel (bOr (iGt (lLen (Al (x,32))) 8) (bNot (E2 (An (D7 x) (Fh x) ([],0)).1))) ([],false) ((An (D7 x) (Fh x) ([],0)).1,true)))):=(Ie.v x).trans (by kernel_rfl)
theorem gJ (x):PZ x=(((sEq x [])=true→True)∧((sEq x [])=false→((Ig (x,32))∧((LoopOk (D7 x) (Fh x) (Hc x) ([],0))∧(((bAnd (iLt (An (D7 x) (Fh x) ([],0)).2 (lLen (Al (x,32)))) (iLe (lLen (Al (x,32))) 8))=true→True)∧((bAnd (iLt (An (D7 x) (Fh x) ([],0)).2 (lLen (Al (x,32)))) (iLe (lLen (Al (x,32))) 8))=false→(((iGt (lLen (Al (x,32))) 8)=true→True)∧((iGt (lLen (Al (x,32))) 8)=false→(NA (An (D7 x) (Fh x) ([],0)).1))))))))):=(Ie.o x).trans (by kernel_rfl)
def Fi(x:List UInt8)(x0:((List (Int×(Int×Int)))×Int)):Bool:=(bAnd (iLt x0.2 (lLen (Bu (x,32)))) (bNot (bOr (bNot (Ax ((lGet (Bu (x,32)) (iNat x0.2) []),[(61:UInt8)])).2.2) (bOr (bNot (Dw (Ax ((lGet (Bu (x,32)) (iNat x0.2) []),[(61:UInt8)])).2.1).2) (bOr (iNe (Dw (Ax ((lGet (Bu (x,32)) (iNat x0.2) []),[(61:UInt8)])).2.1).1.1 2) (bOr (iNe (lLen (Ax ((lGet (Bu (x,32)) (iNat x0.2) []),[(61:UInt8)])).1) 1) (iLt (Ft ([(116:UInt8),100,117],(Ax ((lGet (Bu (x,32)) (iNat x0.2) []),[(61:UInt8)])).1)) 0)))))))
def Fj(x:List UInt8)(x0:((List (Int×(Int×Int)))×Int)):((List (Int×(Int×Int)))×Int):=((lApp x0.1 [((Ft ([(116:UInt8),100,117],(Ax ((lGet (Bu (x,32)) (iNat x0.2) []),[(61:UInt8)])).1)),(Dw (Ax ((lGet (Bu (x,32)) (iNat x0.2) []),[(61:UInt8)])).2.1).1.2.1,(Dw (Ax ((lGet (Bu (x,32)) (iNat x0.2) []),[(61:UInt8)])).2.1).1.2.2.1)]),(iAdd .i64 x0.2 1))
def Ta(x:List UInt8)(x0:((List (Int×(Int×Int)))×Int)):Prop:=(((iLt x0.2 (lLen (Bu (x,32))))=true→((((0:Int)≤x0.2)∧(x0.2<(((List.length (Bu (x,32))):Int))))∧(((iNat x0.2)<(List.length (Bu (x,32))))∧((Jg ((lGet (Bu (x,32)) (iNat x0.2) []),[(61:UInt8)]))∧((Nb (Ax ((lGet (Bu (x,32)) (iNat x0.2) []),[(61:UInt8)])).2.1)∧((Ly ([(116:UInt8),100,117],(Ax ((lGet (Bu (x,32)) (iNat x0.2) []),[(61:UInt8)])).1))∧(((bOr (bNot (Ax ((lGet (Bu (x,32)) (iNat x0.2) []),[(61:UInt8)])).2.2) (bOr (bNot (Dw (Ax ((lGet (Bu (x,32)) (iNat x0.2) []),[(61:UInt8)])).2.1).2) (bOr (iNe (Dw (Ax ((lGet (Bu (x,32)) (iNat x0.2) []),[(61:UInt8)])).2.1).1.1 2) (bOr (iNe (lLen (Ax ((lGet (Bu (x,32)) (iNat x0.2) []),[(61:UInt8)])).1) 1) (iLt (Ft ([(116:UInt8),100,117],(Ax ((lGet (Bu (x,32)) (iNat x0.2) []),[(61:UInt8)])).1)) 0)))))=true→True)∧((bOr (bNot (Ax ((lGet (Bu (x,32)) (iNat x0.2) []),[(61:UInt8)])).2.2) (bOr (bNot (Dw (Ax ((lGet (Bu (x,32)) (iNat x0.2) []),[(61:UInt8)])).2.1).2) (bOr (iNe (Dw (Ax ((lGet (Bu (x,32)) (iNat x0.2) []),[(61:UInt8)])).2.1).1.1 2) (bOr (iNe (lLen (Ax ((lGet (Bu (x,32)) (iNat x0.2) []),[(61:UInt8)])).1) 1) (iLt (Ft ([(116:UInt8),100,117],(Ax ((lGet (Bu (x,32)) (iNat x0.2) []),[(61:UInt8)])).1)) 0)))))=false→(A5 (((List.length x0.1)+(List.length [((Ft ([(116:UInt8),100,117],(Ax ((lGet (Bu (x,32)) (iNat x0.2) []),[(61:UInt8)])).1)),(Dw (Ax ((lGet (Bu (x,32)) (iNat x0.2) []),[(61:UInt8)])).2.1).1.2.1,(Dw (Ax ((lGet (Bu (x,32)) (iNat x0.2) []),[(61:UInt8)])).2.1).1.2.2.1)]))*3))))))))))∧((iLt x0.2 (lLen (Bu (x,32))))=false→True))
theorem gR (x):BM x=(bSel (sEq x []) ([],true) (bSel (iLt (An (Fi x) (Fj x) ([],0)).2 (lLen (Bu (x,32)))) ([],false) (bSel (bOr (bNot (Il (An (Fi x) (Fj x) ([],0)).1)) (sNe (P2 (An (Fi x) (Fj x) ([],0)).1) x)) ([],false) ((An (Fi x) (Fj x) ([],0)).1,true)))):=(Gw.v x).trans (by kernel_rfl)
theorem gO (x):Nd x=(((sEq x [])=true→True)∧((sEq x [])=false→((P9 (x,32))∧((LoopOk (Fi x) (Fj x) (Ta x) ([],0))∧(((iLt (An (Fi x) (Fj x) ([],0)).2 (lLen (Bu (x,32))))=true→True)∧((iLt (An (Fi x) (Fj x) ([],0)).2 (lLen (Bu (x,32))))=false→((Nu (An (Fi x) (Fj x) ([],0)).1)∧(((bNot (Il (An (Fi x) (Fj x) ([],0)).1))=true→True)∧((bNot (Il (An (Fi x) (Fj x) ([],0)).1))=false→(PU (An (Fi x) (Fj x) ([],0)).1)))))))))):=(Gw.o x).trans (by kernel_rfl)
theorem iq (x):Gy x=(bSel (iLt (An (fun(x0:(Int×Int))=>(bAnd (iLt x0.2 (lLen x.1)) (bAnd (bNot (iNe (lGet x.1 (iNat x0.2) (0,0,0)).1 x0.1)) (bAnd (bNot (iNe (lGet x.1 (iNat x0.2) (0,0,0)).2.1 (iAdd .i64 x0.1 1))) (bNot (iNe (lGet x.1 (iNat x0.2) (0,0,0)).2.2 (iAdd .i64 (iAdd .i64 x0.1 1) 1))))))) (fun(x0:(Int×Int))=>((iAdd .i64 (iAdd .i64 (iAdd .i64 x0.1 1) 1) 1),(iAdd .i64 x0.2 1))) (x.2,0)).2 (lLen x.1)) (bSel (iNe (lGet x.1 (iNat (An (fun(x0:(Int×Int))=>(bAnd (iLt x0.2 (lLen x.1)) (bAnd (bNot (iNe (lGet x.1 (iNat x0.2) (0,0,0)).1 x0.1)) (bAnd (bNot (iNe (lGet x.1 (iNat x0.2) (0,0,0)).2.1 (iAdd .i64 x0.1 1))) (bNot (iNe (lGet x.1 (iNat x0.2) (0,0,0)).2.2 (iAdd .i64 (iAdd .i64 x0.1 1) 1))))))) (fun(x0:(Int×Int))=>((iAdd .i64 (iAdd .i64 (iAdd .i64 x0.1 1) 1) 1),(iAdd .i64 x0.2 1))) (x.2,0)).2) (0,0,0)).1 (An (fun(x0:(Int×Int))=>(bAnd (iLt x0.2 (lLen x.1)) (bAnd (bNot (iNe (lGet x.1 (iNat x0.2) (0,0,0)).1 x0.1)) (bAnd (bNot (iNe (lGet x.1 (iNat x0.2) (0,0,0)).2.1 (iAdd .i64 x0.1 1))) (bNot (iNe (lGet x.1 (iNat x0.2) (0,0,0)).2.2 (iAdd .i64 (iAdd .i64 x0.1 1) 1))))))) (fun(x0:(Int×Int))=>((iAdd .i64 (iAdd .i64 (iAdd .i64 x0.1 1) 1) 1),(iAdd .i64 x0.2 1))) (x.2,0)).1) (-1) (bSel (iNe (lGet x.1 (iNat (An (fun(x0:(Int×Int))=>(bAnd (iLt x0.2 (lLen x.1)) (bAnd (bNot (iNe (lGet x.1 (iNat x0.2) (0,0,0)).1 x0.1)) (bAnd (bNot (iNe (lGet x.1 (iNat x0.2) (0,0,0)).2.1 (iAdd .i64 x0.1 1))) (bNot (iNe (lGet x.1 (iNat x0.2) (0,0,0)).2.2 (iAdd .i64 (iAdd .i64 x0.1 1) 1))))))) (fun(x0:(Int×Int))=>((iAdd .i64 (iAdd .i64 (iAdd .i64 x0.1 1) 1) 1),(iAdd .i64 x0.2 1))) (x.2,0)).2) (0,0,0)).2.1 (iAdd .i64 (An (fun(x0:(Int×Int))=>(bAnd (iLt x0.2 (lLen x.1)) (bAnd (bNot (iNe (lGet x.1 (iNat x0.2) (0,0,0)).1 x0.1)) (bAnd (bNot (iNe (lGet x.1 (iNat x0.2) (0,0,0)).2.1 (iAdd .i64 x0.1 1))) (bNot (iNe (lGet x.1 (iNat x0.2) (0,0,0)).2.2 (iAdd .i64 (iAdd .i64 x0.1 1) 1))))))) (fun(x0:(Int×Int))=>((iAdd .i64 (iAdd .i64 (iAdd .i64 x0.1 1) 1) 1),(iAdd .i64 x0.2 1))) (x.2,0)).1 1)) (-1) (-1))) (An (fun(x0:(Int×Int))=>(bAnd (iLt x0.2 (lLen x.1)) (bAnd (bNot (iNe (lGet x.1 (iNat x0.2) (0,0,0)).1 x0.1)) (bAnd (bNot (iNe (lGet x.1 (iNat x0.2) (0,0,0)).2.1 (iAdd .i64 x0.1 1))) (bNot (iNe (lGet x.1 (iNat x0.2) (0,0,0)).2.2 (iAdd .i64 (iAdd .i64 x0.1 1) 1))))))) (fun(x0:(Int×Int))=>((iAdd .i64 (iAdd .i64 (iAdd .i64 x0.1 1) 1) 1),(iAdd .i64 x0.2 1))) (x.2,0)).1):=(Gx.v x).trans (by kernel_rfl)
theorem iD (x):Nh x=(LoopOk (fun(x0:(Int×Int))=>(bAnd (iLt x0.2 (lLen x.1)) (bAnd (bNot (iNe (lGet x.1 (iNat x0.2) (0,0,0)).1 x0.1)) (bAnd (bNot (iNe (lGet x.1 (iNat x0.2) (0,0,0)).2.1 (iAdd .i64 x0.1 1))) (bNot (iNe (lGet x.1 (iNat x0.2) (0,0,0)).2.2 (iAdd .i64 (iAdd .i64 x0.1 1) 1))))))) (fun(x0:(Int×Int))=>((iAdd .i64 (iAdd .i64 (iAdd .i64 x0.1 1) 1) 1),(iAdd .i64 x0.2 1))) (fun(x0:(Int×Int))=>(((iLt x0.2 (lLen x.1))=true→((((0:Int)≤x0.2)∧(x0.2<(((List.length x.1):Int))))∧(((iNat x0.2)<(List.length x.1))∧(((iNe (lGet x.1 (iNat x0.2) (0,0,0)).1 x0.1)=true→True)∧((iNe (lGet x.1 (iNat x0.2) (0,0,0)).1 x0.1)=false→((((0:Int)≤x0.2)∧(x0.2<(((List.length x.1):Int))))∧(((iNat x0.2)<(List.length x.1))∧(((iNe (lGet x.1 (iNat x0.2) (0,0,0)).2.1 (iAdd .i64 x0.1 1))=true→True)∧((iNe (lGet x.1 (iNat x0.2) (0,0,0)).2.1 (iAdd .i64 x0.1 1))=false→((((0:Int)≤x0.2)∧(x0.2<(((List.length x.1):Int))))∧((iNat x0.2)<(List.length x.1))))))))))))∧((iLt x0.2 (lLen x.1))=false→True))) (x.2,0)):=(Gx.o x).trans (by kernel_rfl)
theorem fC (x):PK x=(bOr (iGt (lLen x) 1048576) (bAnd (bNot (bOr (bNot (Ip ((BM x).1,(CB x).1))) (bNot (bIff (BM x).2 (CB x).2)))) (bAnd (bNot (iLt (Gy ((Cy (BM x).1 1).1,1)) 0)) (bAnd (bNot (iNe (Gy ((Cy (BM x).1 1).1,1)) (Cy (BM x).1 1).2)) (bAnd (bNot (bOr (bNot (Ip ((BM x).1,(CB x).1))) (bNot (bIff (BM x).2 (CB x).2)))) (bAnd (bNot (iLt (Gy ((Cy (BM x).1 1).1,1)) 0)) (bNot (iNe (Gy ((Cy (BM x).1 1).1,1)) (Cy (BM x).1 1).2)))))))):=(F0.v x).trans (by kernel_rfl)
theorem fF (x):PJ x=(((iGt (lLen x) 1048576)=true→True)∧((iGt (lLen x) 1048576)=false→((PZ x)∧((Nd x)∧((Nv ((BM x).1,(CB x).1))∧(((bOr (bNot (Ip ((BM x).1,(CB x).1))) (bNot (bIff (BM x).2 (CB x).2)))=true→True)∧((bOr (bNot (Ip ((BM x).1,(CB x).1))) (bNot (bIff (BM x).2 (CB x).2)))=false→((((List.length (BM x).1)=(List.length (BM x).1))∧(DMk.ok (DMk.mk (RT.one (CT.sl (RT.cons (CT.int IntKind.i64) (RT.cons (CT.int IntKind.i64) (RT.one (CT.int IntKind.i64)))))) false Lv Cy false) (BM x).1))∧((Nh ((Cy (BM x).1 1).1,1))∧(((iLt (Gy ((Cy (BM x).1 1).1,1)) 0)=true→True)∧((iLt (Gy ((Cy (BM x).1 1).1,1)) 0)=false→(((iNe (Gy ((Cy (BM x).1 1).1,1)) (Cy (BM x).1 1).2)=true→True)∧((iNe (Gy ((Cy (BM x).1 1).1,1)) (Cy (BM x).1 1).2)=false→((Nd x)∧((Nv ((BM x).1,(CB x).1))∧(((bOr (bNot (Ip ((BM x).1,(CB x).1))) (bNot (bIff (BM x).2 (CB x).2)))=true→True)∧((bOr (bNot (Ip ((BM x).1,(CB x).1))) (bNot (bIff (BM x).2 (CB x).2)))=false→(Nh ((Cy (BM x).1 1).1,1))))))))))))))))))):=(F0.o x).trans (by kernel_rfl)
attribute [irreducible] D9 Qm CB PZ BM Nd Gy Nh PK PJ
end
section
set_option maxRecDepth 20000
abbrev fe:=Int×Int×Int
def kd(b:UInt8):Nat:=if b=116 then 0 else if b=100 then 1 else if b=117 then 2 else 3
theorem bM(b:UInt8):Ft ([(116:UInt8),100,117],[b])=if kd b<3 then (kd b:Int) else -1:=by
 rw[XN];unfold kd;by_cases h0:b=116
 · subst h0;decide
 · by_cases h1:b=100
   · subst h1;decide
   · by_cases h2:b=117
     · subst h2;decide
     · have e:∀ c:UInt8,b≠c→([b]:List UInt8).isPrefixOf (c::[])=false:=fun c hc=>by simp[List.isPrefixOf,hc]
       simp[Lib.index,List.isPrefixOf,h0,h1,h2]
theorem ed(b:UInt8)(h:kd b<3):([116,100,117]:List UInt8).getD (kd b) 0=b:=by
 unfold kd at h ⊢;split
 · rename_i e;rw[e];rfl
 · split
   · rename_i e;rw[e];rfl
   · split
     · rename_i e;rw[e];rfl
     · rename_i h0 h1 h2;rw[Ad h0,Ad h1,Ad h2] at h;omega
theorem vf(k:Nat)(h:k<3):kd (([116,100,117]:List UInt8).getD k 0)=k:=by
 rcases (show k=0∨k=1∨k=2 by omega) with rfl|rfl|rfl<;>decide
theorem Vq(b0 b1 b2:UInt8)(t:List UInt8)(hl:(b0::b1::b2::t).length≤1048576):LoopOk (Hf (b0::b1::b2::t)) Ic (Nj (b0::b1::b2::t)) 0 ∧
 An (Hf (b0::b1::b2::t)) Ic 0=(kd b0:Int):=by
 have gx:sGet (b0::b1::b2::t) 0=((b0.toNat:Nat):Int):=by rw[IG];rfl
 have gk:∀ k:Nat,sGet [(116:UInt8),100,117] (k:Int)=(((([116,100,117]:List UInt8).getD k 0).toNat:Nat):Int):=fun k=>by rw[IG,Bp]
 have ls:lSub (b0::b1::b2::t) (iNat 2) (lN (b0::b1::b2::t))=b2::t:=by rw[DP,AQ,FL];simp
 have pa:=(Qd (b2::t) (by simp at hl ⊢;omega)).1
 have safe:∀ k:Nat,k≤3→Nj (b0::b1::b2::t) (k:Int):=fun k hk=>by
  simp only[Nj,ls];simp only[Au,AQ,FL,AX,Cc];refine⟨fun h=>⟨⟨by decide,by simp;omega⟩,⟨by omega,by show (k:Int)<3;omega⟩,fun _=>⟨⟨by decide,by simp,AB _⟩,pa⟩,fun _=>trivial⟩,fun _=>trivial⟩
 have kd3:kd b0≤3:=by unfold kd;split<;>(try split)<;>(try split)<;>omega
 have L:=Dj (c:=Hf (b0::b1::b2::t)) (f:=Ic) (p:=Nj (b0::b1::b2::t)) (kd b0) (fun k=>(k:Int)) (x0:=0) rfl (fun k hk=>by
  refine⟨safe k (by omega),?_,?_⟩
  · have hne:b0≠([116,100,117]:List UInt8).getD k 0:=fun e=>by
     have:=vf k (by omega);rw[← e] at this;omega
    simp only[Hf,gx,gk,Aw,AM,Au,Co];rw[BI (show (k:Int)<3 by omega),Cz (ME hne)];rfl
  · unfold Ic
    rw[BS (by unfold AU;omega)];simp) ⟨safe _ kd3,by
  simp only[Hf,gx,gk,Aw,AM,Au,Co];by_cases h:kd b0<3
  · rw[ed b0 h];simp
  · rw[Cz (show ¬ (kd b0:Int)<3 by omega)];rfl⟩
 exact L
def WG(s:fe):Prop:=0≤s.1∧s.1≤2∧Cl (2,s.2.1,s.2.2,0)=true
def D1(w:List UInt8):Bool:=bOr (bNot (Ax (w,[(61:UInt8)])).2.2) (bOr (bNot (Dw (Ax (w,[(61:UInt8)])).2.1).2) (bOr (iNe (Dw (Ax (w,[(61:UInt8)])).2.1).1.1 2) (bOr (iNe (lLen (Ax (w,[(61:UInt8)])).1) 1) (iLt (Ft ([(116:UInt8),100,117],(Ax (w,[(61:UInt8)])).1)) 0))))
def Ct(w:List UInt8):fe:=((Ft ([(116:UInt8),100,117],(Ax (w,[(61:UInt8)])).1)),(Dw (Ax (w,[(61:UInt8)])).2.1).1.2.1,(Dw (Ax (w,[(61:UInt8)])).2.1).1.2.2.1)
theorem ew(w:List UInt8)(h:w.length≤1048576):Qm w:=by
 rw[jP];simp only[BL,Au,As,Ce,DU,AX,Cc];refine⟨⟨fun _=>trivial,fun h=>⟨by decide,by omega⟩⟩,fun _=>trivial,fun hh=>?_⟩
 match w,h with
 |[],_=>simp at hh
 |[_],_=>simp at hh
 |[_,_],_=>simp at hh
 |b0::b1::b2::t,h=>exact(Vq b0 b1 b2 t h).1
theorem VI(w:List UInt8)(h:(Ax (w,[(61:UInt8)])).1.length≠1):D1 w=true:=by
 unfold D1
 have:iNe (lLen (Ax (w,[(61:UInt8)])).1) 1=true:=by rw[Dp,As];simp;omega
 simp only[this,BL,Bool.true_or,Bool.or_true]
theorem RL(w:List UInt8)(h:(61:UInt8) ∉ w):D1 w=true:=by
 unfold D1;rw[(L6 w 61 h).2,BL,AM];rfl
theorem Ut(w:List UInt8)(h:w.length≤1048576):(D9 w).2=!D1 w∧(D1 w=false→D9 w=(Ct w,true)∧WG (Ct w)∧CL (Ct w)=w):=by
 have short:∀ w:List UInt8,w.length<3→(D9 w).2=false:=fun w hw=>by
  rw[Qo]
  have:bOr (iLt (lLen w) 3) (iNe (sGet w 1) 61)=true:=by
   rw[BL,Au,As,BI (by omega)];rfl
  rw[this,AR]
 have noeq:∀ w:List UInt8,w.getD 1 0≠61→(D9 w).2=false:=fun w hw=>by
  rw[Qo]
  have:bOr (iLt (lLen w) 3) (iNe (sGet w 1) 61)=true:=by
   rw[BL,Dp,IG,show (61:Int)=(((61:UInt8).toNat:Nat):Int) from rfl];have:=ME hw;simp only[Ce];right;simpa using this
  rw[this,AR]
 have fin:D1 w=true→(D9 w).2=false→(D9 w).2=!D1 w∧(D1 w=false→D9 w=(Ct w,true)∧WG (Ct w)∧CL (Ct w)=w):=fun h1 h2=>by
  rw[h1,h2];exact⟨rfl,fun h=>(by cases h)⟩
 match w,h,fin with
 |[],_,fin=>exact fin (RL _ (by simp)) (short _ (by simp))
 | [b0],h,fin=>
   refine fin ?_ (short _ (by simp));by_cases e:b0=61
   · subst e;refine VI _ ?_;have hc:Ax ([61],[(61:UInt8)])=([],[],true):=(JD [] [] 61 (by simp) (by simp)).2;rw[hc];simp
   · exact RL _ (by simp[EH e])
 | b0 :: b1::t,h,fin=>
   by_cases e0:b0=61
   · subst e0;have hc:Ax (61::b1::t,[(61:UInt8)])=([],b1::t,true):=(JD [] (b1::t) 61 (by simp) h).2;refine fin (VI _ (by rw[hc];simp)) ?_
     match t,h with
     |[],_=>exact short _ (by simp)
     | b2::t,h=>
       rw[Qo];obtain⟨_,l2⟩:=Vq 61 b1 b2 t h
       have:iLt (An (Hf (61::b1::b2::t)) Ic 0) 3=false:=by rw[l2,Au];decide
       rw[this,AN];rw[Bi];split<;>rfl
   · by_cases e1:b1=61
     · subst e1;have hc:=(JD [b0] t 61 (by simp[EH e0]) h).2;have hc:Ax (b0::61::t,[(61:UInt8)])=([b0],t,true):=hc
       match t,h,hc,fin with
       | [],h,hc,fin=>
         refine fin ?_ (short _ (by simp))
         have:(Dw []).2=false:=by
          obtain⟨_,_,e,hh⟩:=Qd [] (by simp);rw[e];rcases hh with⟨a,a1,a2,_⟩|⟨_,a2⟩
          · exact absurd a2 (dT a a1)
          · rw[a2]
         unfold D1;rw[hc];simp only[this,AM,BL,Bool.not_false,Bool.true_or,Bool.or_true]
       | b2::t,h,hc,fin=>
         obtain⟨_,l2⟩:=Vq b0 61 b2 t h;obtain⟨_,_,ep,hh⟩:=Qd (b2::t) (by simp at h ⊢;omega)
         have ls:lSub (b0::61::b2::t) (iNat 2) (lN (b0::61::b2::t))=b2::t:=by rw[DP,AQ,FL];simp
         have e3:bOr (iLt (lLen (b0::61::b2::t)) 3) (iNe (sGet (b0::61::b2::t) 1) 61)=false:=by
          rw[BL,Au,As,Dp,IG,Cz (by simp;omega)];show (false||decide ((((61:UInt8).toNat:Nat):Int)≠61))=false;decide
         have ev:D9 (b0::61::b2::t)=bSel (iLt (kd b0:Int) 3) (((kd b0:Int),(CH (b2::t)).1.2.1,(CH (b2::t)).1.2.2.1),bAnd (CH (b2::t)).2 (iEq (CH (b2::t)).1.1 2)) ((0,0,0),false):=by
          rw[Qo,e3,AN,l2,ls];simp only[Bi,ite_self]
         have eb:D1 (b0::61::b2::t)=bOr (bNot (CH (b2::t)).2) (bOr (iNe (CH (b2::t)).1.1 2) (iLt (if kd b0<3 then (kd b0:Int) else -1) 0)):=by
          unfold D1;rw[hc,ep,bM]
          have:iNe (lLen [b0]) 1=false:=by rw[Dp,As];rfl
          simp only[this,BL,AM,Gd,Bool.false_or]
         have evl:Ct (b0::61::b2::t)=((if kd b0<3 then (kd b0:Int) else -1),(CH (b2::t)).1.2.1,(CH (b2::t)).1.2.2.1):=by
          unfold Ct;rw[hc,ep,bM]
         by_cases hk:kd b0<3
         · have i1:iLt (kd b0:Int) 3=true:=by rw[Au];exact BI (by omega)
           have i2:iLt (kd b0:Int) 0=false:=by rw[Au];exact Cz (by omega)
           rw[ev,eb,evl,Ab hk,i1,i2,AR];simp only[Aw,BL,AM,Co,Dp,Bool.or_false];rcases hh with⟨a,a1,a2,a3⟩|⟨_,a3⟩
           · rw[a3];obtain⟨k,c,m,n⟩:=a;refine⟨by simp,fun hf=>?_⟩;simp only[Gd,Bool.false_or,Cc] at hf
             have hk2:k=2:=by simpa using hf
             subst hk2
             have hn:n=0:=by have:=Q4 2 c m n a1;omega
             subst hn;refine⟨by simp,⟨by simp,by simp;omega,a1⟩,?_⟩;unfold CL;simp only[Bp,ed b0 hk,a2];rfl
           · rw[a3];simp
         · have i1:iLt (kd b0:Int) 3=false:=by rw[Au];exact Cz (by omega)
           have i2:iLt (-1) 0=true:=by rw[Au];rfl
           rw[ev,eb,Ad hk,i1,i2,AN];simp only[BL,Bool.or_true];exact⟨rfl,fun h=>(by cases h)⟩
     · refine fin ?_ (noeq _ (by simpa using e1));rcases Rv (b0::b1::t) 61 with h1|⟨x,y,hx,h2⟩
       · exact RL _ h1
       · refine VI _ ?_;rw[hx,(JD x y 61 h2 (by rw[← hx];exact h)).2]
         match x,hx with
         |[],hx=>simp at hx;exact absurd hx.1 e0
         |[_],hx=>simp at hx;exact absurd hx.2.1 e1
         |_::_::_,_=>simp
end
section
set_option maxRecDepth 20000
def FA(a:Int×Int×Int)(k:Int):(Int×Int×Int)×Int:=((k,(IntKind.i64.wrap (k+1)),(IntKind.i64.wrap ((IntKind.i64.wrap (k+1))+1))),(IntKind.i64.wrap ((IntKind.i64.wrap ((IntKind.i64.wrap (k+1))+1))+1)))
theorem rE(x:List (Int×Int×Int))(h:Va x)(m:Int)(h0:0≤m)(h1:m+3145728≤2305843009213693952):Lv x∧(m≤(Cy x m).2∧(Cy x m).2≤m+3145728)∧Nh ((Cy x m).1,m)∧Gy ((Cy x m).1,m)=(Cy x m).2:=by
 have hl:x.length≤1048576:=h.1
 have hU:W0 FA x 3:=by
  intro a ha k k0 k1;have e0:IntKind.i64.wrap (k+1)=k+1:=MG (by omega) (by omega);have e1:IntKind.i64.wrap ((k+1)+1)=(k+1)+1:=MG (by omega) (by omega);have e2:IntKind.i64.wrap (((k+1)+1)+1)=((k+1)+1)+1:=MG (by omega) (by omega)
  have ee:(FA a k).2=(((k+1)+1)+1):=by simp only[FA,e0,e1,e2]
  rw[ee];omega
 have hB:x.length*3≤3145728:=sy hl (by decide);have up:=uM (m:=m) hU h0 (by omega)
 have hmg:Cy x m=BO FA x m:=by unfold FA;rw[Xl];rfl
 rw[hmg];have hL:=KE FA x m
 have hg:∀ i,i<x.length→(BO FA x m).1.getD i (0,0,0)=(FA (x.getD i (0,0,0)) (BZ FA x m i).2).1:=fun i hi=>rD _ _ _ hi _
 have hok:Lv x:=by rw[Xk];exact⟨Dq h.1 (by decide),fun a ha=>⟨trivial,trivial,trivial⟩⟩
 rw[iD,iq];dsimp only;generalize (BO FA x m).1=L at hL hg ⊢
 have key:LoopOk (fun(x0:(Int×Int))=>(bAnd (iLt x0.2 (lLen L)) (bAnd (bNot (iNe (lGet L (iNat x0.2) (0,0,0)).1 x0.1)) (bAnd (bNot (iNe (lGet L (iNat x0.2) (0,0,0)).2.1 (iAdd .i64 x0.1 1))) (bNot (iNe (lGet L (iNat x0.2) (0,0,0)).2.2 (iAdd .i64 (iAdd .i64 x0.1 1) 1))))))) (fun(x0:(Int×Int))=>((iAdd .i64 (iAdd .i64 (iAdd .i64 x0.1 1) 1) 1),(iAdd .i64 x0.2 1))) (fun(x0:(Int×Int))=>(((iLt x0.2 (lLen L))=true→((((0:Int)≤x0.2)∧(x0.2<(((List.length L):Int))))∧(((iNat x0.2)<(List.length L))∧(((iNe (lGet L (iNat x0.2) (0,0,0)).1 x0.1)=true→True)∧((iNe (lGet L (iNat x0.2) (0,0,0)).1 x0.1)=false→((((0:Int)≤x0.2)∧(x0.2<(((List.length L):Int))))∧(((iNat x0.2)<(List.length L))∧(((iNe (lGet L (iNat x0.2) (0,0,0)).2.1 (iAdd .i64 x0.1 1))=true→True)∧((iNe (lGet L (iNat x0.2) (0,0,0)).2.1 (iAdd .i64 x0.1 1))=false→((((0:Int)≤x0.2)∧(x0.2<(((List.length L):Int))))∧((iNat x0.2)<(List.length L))))))))))))∧((iLt x0.2 (lLen L))=false→True))) (m,0)∧An (fun(x0:(Int×Int))=>(bAnd (iLt x0.2 (lLen L)) (bAnd (bNot (iNe (lGet L (iNat x0.2) (0,0,0)).1 x0.1)) (bAnd (bNot (iNe (lGet L (iNat x0.2) (0,0,0)).2.1 (iAdd .i64 x0.1 1))) (bNot (iNe (lGet L (iNat x0.2) (0,0,0)).2.2 (iAdd .i64 (iAdd .i64 x0.1 1) 1))))))) (fun(x0:(Int×Int))=>((iAdd .i64 (iAdd .i64 (iAdd .i64 x0.1 1) 1) 1),(iAdd .i64 x0.2 1))) (m,0)=((BO FA x m).2,(x.length:Int)):=by
  refine pe hl (0,0,0) (fun i hi=>?_) ?_
  · obtain⟨b1,b2⟩:=aT (m:=m) hU h0 (by omega) (0,0,0) i (by omega);have bm:i*3+3≤x.length*3:=qL hi;have g:=hg i hi
    have hlt:(i:Int)<(L.length:Int):=by omega
    have hlN:i<L.length:=by omega
    have ha:=Rs x i (0,0,0) hi;generalize (BZ FA x m i).2=k at b1 b2 g ⊢;generalize x.getD i (0,0,0)=a at g ha ⊢;have e0:IntKind.i64.wrap (k+1)=k+1:=MG (by omega) (by omega);have e1:IntKind.i64.wrap ((k+1)+1)=(k+1)+1:=MG (by omega) (by omega);have e2:IntKind.i64.wrap (((k+1)+1)+1)=((k+1)+1)+1:=MG (by omega) (by omega);simp only[CY,AQ,As,Bp,rQ,pn,Dp,Au,Co,qS,Aw,AM,Mi,g,FA,e0,e1,e2];simp[hlt,hlN]
  · simp[Au,As,hL,Aw]
 refine⟨hok,⟨up.1,by omega⟩,key.1,?_⟩;simp only[key.2];simp[Bi,Au,As,hL]
end
section
set_option maxRecDepth 20000
theorem Uf(w:List UInt8)(l:List (List UInt8))(sep:List UInt8)(h:l≠[]):Bt (w::l) sep=w++(sep++Bt l sep):=by
 cases l with
 |nil=>exact absurd rfl h
 |cons a r=>simp[Bt,List.intercalate,List.intersperse]
theorem ZL(b:UInt8):∀ s:List UInt8,Bt (BW s (b.toNat:Int)) [b]=s
 |[]=>by simp[BW,Bt,List.intercalate]
 | z :: r=>by
   have i:=ZL b r
   have hp:=Zu r (b.toNat:Int)
   unfold BW
   by_cases h:z=b
   · subst h
     rw[Ab rfl,Uf _ _ _ (fun e=>by rw[e] at hp;simp at hp),i];rfl
   · rw[Ad (ME h)]
     cases hs:BW r (b.toNat:Int) with
     |nil=>rw[hs] at hp;simp at hp
     | cons w ws=>
       rw[hs] at i
       simp only
       cases ws with
       |nil=>simp[Bt,List.intercalate] at i ⊢;exact i
       |cons v vs=>rw[Uf _ _ _ (by simp)] at i ⊢;rw[Cf,i]
theorem Y8(b:UInt8):∀ l:List (List UInt8),(∀ w∈l,w≠[])→2*l.length≤(Bt l [b]).length+1
 |[],_=>by simp
 | [a],h=>by
   have:=List.length_pos_iff.2 (h a (by simp))
   simp[Bt,List.intercalate];omega
 | a::c::r,h=>by
   have i:=Y8 b (c::r) (fun w hw=>h w (by simp[hw]))
   have:=List.length_pos_iff.2 (h a (by simp))
   rw[Uf _ _ _ (by simp)]
   simp only[CD,AP,AO] at i ⊢
   omega
theorem Yw:∀ (s:List UInt8) (c:Int),∀ w∈BW s c,w.length≤s.length
 |[],c,w,hw=>by simp[BW] at hw;simp[hw]
 | z :: r,c,w,hw=>by
   have i:=Yw r c
   unfold BW at hw
   split at hw
   · rcases Cb.1 hw with rfl|hw
     · simp
     · have:=i w hw;simp;omega
   · cases hs:BW r c with
     |nil=>rw[hs] at hw;simp at hw;subst hw;simp
     | cons v vs=>
       rw[hs] at hw i
       rcases Cb.1 hw with rfl|hw
       · have:=i v (by simp);simp;omega
       · have:=i w (by simp[hw]);simp;omega
theorem TL{α β:Type}(l:List α)(d:α)(f:α→β){k:Nat}(h:k<l.length):(l.take (k+1)).map f=(l.take k).map f++[f (l.getD k d)]:=by
 rw[← Ra l d h,EO];rfl
theorem nB(ws:List (List UInt8))(h:∀ w∈ws,CL (Ct w)=w):(ws.map Ct).map CL=ws:=by
 rw[List.map_map]
 conv=>rhs;rw[← List.map_id ws]
 exact List.map_congr_left fun w hw=>h w hw
theorem jZ(s:List UInt8)(h:s.length≤1048576):PZ s∧Nd s∧BM s=CB s∧(CB s).1.length≤1048576 ∧
 ((CB s).2=true→s≠[]→E2 (CB s).1=true∧Bt ((CB s).1.map CL) [32]=s):=by
 obtain⟨o1,e1⟩:=Of s 32 h
 obtain⟨o2,e2⟩:=l7 s 32 h
 have hN:=ZA s 32
 have hP:=Zu s 32
 have hW:=Yw s 32
 have hJ:Bt (BW s 32) [32]=s:=ZL 32 s
 rw[gJ,gO,gU,gR]
 by_cases hs:s=[]
 · have e:sEq s []=true:=by rw[B5,hs];rfl
   rw[e,AR,AR];exact⟨⟨fun _=>trivial,fun h=>(by cases h)⟩,⟨fun _=>trivial,fun h=>(by cases h)⟩,rfl,by simp,fun _ hn=>absurd hs hn⟩
 have e:sEq s []=false:=B9 hs
 rw[e,AN,AN]
 generalize hws:BW s 32=ws at *
 have wl:∀ k,k<ws.length→(ws.getD k []).length≤1048576:=fun k hk=>by
  rw[Cd,Ay hk];exact Dq (hW _ (Dd hk)) h
 have gw:∀ k:Nat,lGet (Al (s,32)) (iNat (k:Int)) []=ws.getD k []:=fun k=>by rw[e1,CY,AQ,Bp]
 have gi:∀ k:Nat,lGet (Bu (s,32)) (iNat (k:Int)) []=ws.getD k []:=fun k=>by rw[e2,CY,AQ,Bp]
 have nS:lLen (Al (s,32))=(ws.length:Int):=by rw[e1,As]
 have nI:lLen (Bu (s,32))=(ws.length:Int):=by rw[e2,As]
 have lS:(Al (s,32)).length=ws.length:=by rw[e1]
 have lI:(Bu (s,32)).length=ws.length:=by rw[e2]
 have ad:∀ k:Nat,k<ws.length→iAdd .i64 (k:Int) 1=((k+1:Nat):Int):=fun k hk=>by rw[BS (by unfold AU;omega)];rfl
 have L2:=cv (c:=Fi s) (f:=Fj s) (p:=Ta s) (x0:=([],0)) ws.length (fun i=>((ws.take i).map Ct,(i:Int))) (fun i=>!D1 (ws.getD i [])) (by simp)
  (fun i hi _=>by
   simp only[Fi,gi,nI];show bAnd (iLt (i:Int) (ws.length:Int)) (bNot (D1 (ws.getD i [])))=_;rw[Aw,AM,Au];congr 1
   exact decide_eq_decide.2 (by omega))
  (fun i hi _=>by
   simp only[Fj,gi];show (lApp ((ws.take i).map Ct) [Ct (ws.getD i [])],iAdd .i64 (i:Int) 1)=_
   rw[ad i hi,EE,TL ws [] Ct hi])
  (fun i hi _=>by
   simp only[Ta,gi,nI,lI];simp only[Au,AQ,Bp];refine⟨fun hlt=>?_,fun _=>trivial⟩
   have hlt:i<ws.length:=by simpa using hlt
   have hw:=wl i hlt;refine⟨⟨by omega,by omega⟩,hlt,Wg _ _ hw,?_,?_,fun _=>trivial,fun _=>Ho ?_⟩
   · refine(Qd _ ?_).2.1;rcases Rv (ws.getD i []) 61 with q|⟨x,y,q1,q2⟩
     · rw[(L6 _ 61 q).2];simp
     · rw[q1] at hw ⊢;rw[(JD x y 61 q2 hw).2];simp at hw ⊢;omega
   · rw[XM];show (3:Nat)<4294967281;decide
   · simp only[AF,EM,AP,AO];omega)
 obtain⟨L2a,k2,k2l,k2e,k2a⟩:=L2
 rw[k2e,nI]
 by_cases hall:∀ i,i<ws.length→(!D1 (ws.getD i []))=true
 ·
  have hk2:=k2a.2 hall;subst hk2
  have good:∀ w∈ws,D1 w=false:=fun w hw=>by
   obtain⟨k,hk,rfl⟩:=Mx hw;have:=hall k hk;rw[Cd,Ay hk] at this;simpa using this
  have wb:∀ w∈ws,D9 w=(Ct w,true)∧WG (Ct w)∧CL (Ct w)=w:=fun w hw=>(Ut w (Dq (hW w hw) h)).2 (good w hw)
  have hn1:ws.length≤1048576:=by
   have:=Y8 32 ws (fun w hw e=>by
    have hb:=good w hw;rw[e] at hb
    rw[RL [] (by simp)] at hb;cases hb)
   rw[hJ] at this;omega
  have i0:iLt (ws.length:Int) (ws.length:Int)=false:=by rw[Au];exact Cz (by omega)
  have tx:(ws.map Ct).map CL=ws:=nB ws fun w hw=>(wb w hw).2.2
  have hl:(ws.map Ct).length≤1048576:=by rw[AF];exact hn1
  obtain⟨_,f2,f3,f4⟩:=jI (ws.map Ct) hl;rw[i0,AN,IP,← ZC _ hl,f3,f4,tx,hJ];by_cases h8:ws.length≤8
  · have c8:iLe (ws.length:Int) 8=true:=by rw[Ca];exact BI (by omega)
    have g8:iGt (ws.length:Int) 8=false:=by rw[DB];exact Cz (by omega)
    have L1:=Dj (c:=D7 s) (f:=Fh s) (p:=Hc s) ws.length (fun i=>((ws.take i).map Ct,(i:Int))) (x0:=([],0)) (by simp) (fun i hi=>by
     have hm:ws.getD i []∈ws:=by rw[Cd,Ay hi];exact Dd hi
     have il:iLt (i:Int) (ws.length:Int)=true:=by rw[Au];exact BI (by omega)
     simp only[D7,Fh,Hc,gw,nS,lS,(wb _ hm).1,c8,il,ad i hi,Aw,AM,EE];simp only[AQ,Bp,← TL ws [] Ct hi];refine⟨⟨fun _=>⟨⟨by omega,by omega⟩,hi,ew _ (wl i hi),fun _=>trivial,fun _=>Ho ?_⟩,fun _=>trivial⟩,by first|trivial|rfl,by first|trivial|rfl⟩
     simp only[AF,EM,AP,AO];omega) (by
     simp only[D7,Hc,nS,i0,Aw,HF]
     exact⟨⟨fun h=>(by cases h),fun _=>trivial⟩,trivial⟩)
    rw[L1.2,nS,i0,c8,g8,IP];have sm:=Yl _ hl;have im:=TI _ hl;simp only[Aw,BL,AM,HF,Bool.false_or,AN];refine⟨⟨fun h=>(by cases h),fun _=>⟨o1,L1.1,fun h=>(by cases h),fun _=>⟨fun h=>(by cases h),fun _=>sm⟩⟩⟩,⟨fun h=>(by cases h),fun _=>⟨o2,L2a,fun _=>trivial,fun _=>⟨im,fun _=>trivial,fun _=>f2⟩⟩⟩,?_⟩
    cases hm:E2 (ws.map Ct) with
    | true=>
      have:sNe s s=false:=by rw[KW];simp
      simp only[AA,this,Gd,Bool.false_or,AN];exact⟨trivial,hl,fun _ _=>⟨hm,by rw[tx];exact hJ⟩⟩
    | false=>
      simp only[Bool.not_false,Bool.true_or,AR];exact⟨trivial,by simp,fun h=>(by cases h)⟩
  · have c8:iLe (ws.length:Int) 8=false:=by rw[Ca];exact Cz (by omega)
    have g8:iGt (ws.length:Int) 8=true:=by rw[DB];exact BI (by omega)
    have L1:=Dj (c:=D7 s) (f:=Fh s) (p:=Hc s) 0 (fun _=>([],0)) (x0:=([],0)) rfl (fun k hk=>absurd hk (by omega)) (by
     simp only[D7,Hc,nS,c8,Aw,Bool.and_false,HF]
     exact⟨⟨fun h=>(by cases h),fun _=>trivial⟩,trivial⟩)
    have hm:E2 (ws.map Ct)=false:=by
     cases hm:E2 (ws.map Ct) with
     |false=>rfl
     |true=>have:=(Zj _ hl hm).1;rw[AF] at this;omega
    have im:=TI _ hl;rw[L1.2,nS,c8,g8,hm];simp only[Aw,BL,AM,Bool.and_false,Bool.true_or,Bool.not_false,AN,AR];exact⟨⟨fun h=>(by cases h),fun _=>⟨o1,L1.1,fun h=>(by cases h),fun _=>⟨fun _=>trivial,fun h=>(by cases h)⟩⟩⟩,⟨fun h=>(by cases h),fun _=>⟨o2,L2a,fun _=>trivial,fun _=>⟨im,fun _=>trivial,fun _=>f2⟩⟩⟩,trivial,by simp,fun h=>(by cases h)⟩
 ·
  have hk2:k2<ws.length:=by
   rcases AZ k2 ws.length with q|q
   · exact q
   · exact absurd (k2a.1 (by omega)) hall
  have i0:iLt (k2:Int) (ws.length:Int)=true:=by rw[Au];exact BI (by omega)
  rw[i0,AR];by_cases h8:ws.length≤8
  · have c8:iLe (ws.length:Int) 8=true:=by rw[Ca];exact BI (by omega)
    have L1:=cv (c:=D7 s) (f:=Fh s) (p:=Hc s) (x0:=([],0)) ws.length (fun i=>((ws.take i).map Ct,(i:Int))) (fun i=>!D1 (ws.getD i [])) (by simp)
     (fun i hi _=>by
      simp only[D7,gw,nS,c8,Aw,AM,IX,Bool.not_not,Au];by_cases hlt:i<ws.length
      · rw[(Ut _ (wl i hlt)).1,BI (show (i:Int)<(ws.length:Int) by omega),BI hlt]
      · rw[Cz (show ¬ (i:Int)<(ws.length:Int) by omega),Cz hlt];rfl)
     (fun i hi hg=>by
      have hb:=hg i (AB _);have:=(Ut _ (wl i hi)).2 (by simpa using hb)
      simp only[Fh,gw,this.1,ad i hi,EE,TL ws [] Ct hi])
     (fun i hi _=>by
      simp only[Hc,gw,nS,lS,c8];simp only[Au,AQ,Bp,Aw,IX];refine⟨fun hlt=>?_,fun _=>trivial⟩
      have hlt:i<ws.length:=by simpa using hlt
      refine⟨⟨by omega,by omega⟩,hlt,ew _ (wl i hlt),fun _=>trivial,fun _=>Ho ?_⟩
      simp only[AF,EM,AP,AO];omega)
    obtain⟨L1a,k1,k1l,k1e,k1a⟩:=L1
    have hk1:k1<ws.length:=by
     rcases AZ k1 ws.length with q|q
     · exact q
     · exact absurd (k1a.1 (by omega)) hall
    have i1:iLt (k1:Int) (ws.length:Int)=true:=by rw[Au];exact BI (by omega)
    rw[k1e,nS,i1,c8];simp only[Aw,Cw,AR];exact⟨⟨fun h=>(by cases h),fun _=>⟨o1,L1a,fun _=>trivial,fun h=>(by cases h)⟩⟩,⟨fun h=>(by cases h),fun _=>⟨o2,L2a,fun _=>trivial,fun h=>(by cases h)⟩⟩,trivial,by simp,fun h=>(by cases h)⟩
  · have c8:iLe (ws.length:Int) 8=false:=by rw[Ca];exact Cz (by omega)
    have g8:iGt (ws.length:Int) 8=true:=by rw[DB];exact BI (by omega)
    have L1:=Dj (c:=D7 s) (f:=Fh s) (p:=Hc s) 0 (fun _=>([],0)) (x0:=([],0)) rfl (fun k hk=>absurd hk (by omega)) (by
     simp only[D7,Hc,nS,c8,Aw,Bool.and_false,HF]
     exact⟨⟨fun h=>(by cases h),fun _=>trivial⟩,trivial⟩)
    rw[L1.2,nS,c8,g8];simp only[Aw,BL,Bool.and_false,Bool.true_or,AN,AR];exact⟨⟨fun h=>(by cases h),fun _=>⟨o1,L1.1,fun h=>(by cases h),fun _=>⟨fun _=>trivial,fun h=>(by cases h)⟩⟩⟩,⟨fun h=>(by cases h),fun _=>⟨o2,L2a,fun _=>trivial,fun h=>(by cases h)⟩⟩,trivial,by simp,fun h=>(by cases h)⟩
theorem fH(x:List UInt8)(hw:TuX.wf F0.h x):PJ x∧PK x=true:=by
 rw[fF,fC];by_cases hx:x.length≤1048576
 · have hg:iGt (lLen x) 1048576=false:=by rw[DB,As];simp;omega
   obtain⟨r1,r2,r3,r4,_⟩:=jZ x hx;rw[r3];have hsm:Va (CB x).1:=⟨r4,fun a _=>by simp[VK]⟩;obtain⟨q1,q2⟩:=rG _ (CB x).1 hsm;have q2:=q2.2 rfl;obtain⟨n1,⟨n2,n3⟩,n4,n5⟩:=rE _ hsm 1 (by omega) (by omega)
   have c2:iLt (Cy (CB x).1 1).2 0=false:=by rw[Au];simp;omega
   simp only[hg,r1,r2,q1,q2,n1,n4,n5,c2];simp[BL,Aw,AM,Mi,Dp]
   all_goals exact n1
 · have hg:iGt (lLen x) 1048576=true:=by rw[DB,As];simp;omega
   simp only[hg];simp[BL]
end
end
end Go.Ag
