/- Part 7 of what FnExactMacroReports needs. No conditions. -/
import Derived.Test.YthljgcjmaabnoaaLibF
namespace Go.Ag
set_option linter.unusedSimpArgs false
set_option linter.unusedVariables false
noncomputable section
section
set_option maxRecDepth 20000
def mA(s:Int×Int×Int):Int×Int×Int×Int×Int:=(0,2,s.2.1,s.2.2,0)
def Zq3(dn:HdX)(s:Int×Int×Int):HdX:=if s.1=1 then dn++[mA s] else if s.1=2 then Zay (dn,Zau (dn,s)) else dn
def mOk(dn:HdX)(s:Int×Int×Int):Prop:=0≤s.1∧s.1≤2∧ZaF (2,s.2.1,s.2.2,0)=true∧(s.1=2↔0≤Zau (dn,s))
def mDn(x:List (Int×Int×Int))(i:Nat):HdX:=(x.take i).foldl Zq3 []
theorem ZsS(x:List (Int×Int×Int)){i:Nat}(h:i<x.length):mDn x (i+1)=Zq3 (mDn x i) (x.getD i (0,0,0)):=by
 unfold mDn
 rw[← Ziy x (0,0,0) h,List.foldl_append]
 rfl
theorem ZEq {c:HdX×Int→Bool} {f:HdX×Int→HdX×Int} (x:List (Int×Int×Int)) (h1:¬ (ZaV c f ([],0)).2<lLen x) (hc:∀ (dn:HdX) (i:Nat),c (dn,(i:Int))=true→i<x.length∧mOk dn (x.getD i (0,0,0)))
 (hf:∀ (dn:HdX) (i:Nat),i<x.length→f (dn,(i:Int))=(Zq3 dn (x.getD i (0,0,0)),(i:Int)+1)):(ZaV c f ([],0)).1=mDn x x.length∧∀ i,i<x.length→mOk (mDn x i) (x.getD i (0,0,0)):=by
 have key:=ZnE (c:=c) (f:=f) (fun st=>∃ i:Nat,st=(mDn x i,(i:Int))∧i≤x.length∧∀ j,j<i→mOk (mDn x j) (x.getD j (0,0,0))) (fun st=>x.length-st.2.toNat) (fun st hI hcc=>by
  obtain⟨i,rfl,hi,hj⟩:=hI
  obtain⟨g1,g2⟩:=hc _ i hcc
  rw[hf _ i g1]
  refine⟨⟨i+1,by rw[ZsS x g1];simp,by omega,fun j hj'=>?_⟩,by simp only;omega⟩
  rcases Nat.lt_or_ge j i with h|h
  · exact hj j h
  · have:j=i:=by omega
    subst this;exact g2) (x0:=([],0)) ⟨0,rfl,Nat.zero_le _,fun j hj=>by omega⟩
 obtain⟨⟨i,e,hi,hj⟩,_⟩:=key
 rw[e,Zan] at h1
 rw[e]
 simp only at h1
 have:i=x.length:=by omega
 subst this
 exact⟨rfl,hj⟩
theorem Zv5(x:List (Int×Int×Int))(h:x.length≤1048576)(hm:Za6 x=true):x.length≤8∧mDn x x.length=[]∧∀ i,i<x.length→mOk (mDn x i) (x.getD i (0,0,0)):=by
 rw[ZkZ,ZaI,ZaI,Bool.and_eq_true,Bool.and_eq_true] at hm
 obtain⟨h1,h2,h3⟩:=hm
 rw[ZaC,Bool.not_eq_true',ZaA _ (lLen x),decide_eq_false_iff_not] at h1
 rw[Zl2,Zan,decide_eq_true_eq] at h2
 rw[Zff,Zan,decide_eq_true_eq] at h3
 obtain⟨g1,g2⟩:=ZEq x h1 (fun dn i hc=>by
  simp only[Zan,ZbJ,ZaK,Int.toNat_natCast,Zec,Zj1,Zu0,ZaI,ZaC,ZhG,Zjj,ZaA,Zff,ZqH,Bool.and_eq_true,Bool.not_eq_true',Bool.or_eq_false_iff,Bool.not_eq_false',decide_eq_true_eq,beq_iff_eq] at hc
  obtain⟨c1,⟨c2,c3⟩,c4,c5⟩:=hc
  refine⟨by omega,c2,c3,c4,?_⟩
  have:=congrArg (·=true) c5
  simpa using this) (fun dn i hi=>by
  simp only[ZbJ,ZaK,Int.toNat_natCast,Zec,Zep,Zff,decide_eq_true_eq,ZcT]
  rw[Zby (by unfold Zo0;omega)]
  rfl)
 refine⟨by omega,?_,g2⟩
 rw[← g1]
 exact List.eq_nil_of_length_eq_zero (by omega)
theorem ZvL(dn:HdX)(p:Int){a:Int×Int×Int×Int×Int}(h:a∈Zay (dn,p)):a∈dn:=by
 rw[Ze9] at h
 simp only[ZcT,Zk1,Zuz,List.nil_append,List.mem_append] at h
 rcases h with h|h
 · exact List.mem_of_mem_drop (List.mem_of_mem_take h)
 · exact List.mem_of_mem_drop (List.mem_of_mem_take h)
theorem Ztt(dn:HdX)(s:Int×Int×Int)(h:dn.length≤1048576):Zau (dn,s)=-1∨(0≤Zau (dn,s)∧Zau (dn,s)<dn.length):=by
 have:=Zo6 (dn.map pi5) (s.2.1,s.2.2) (by rw[List.length_map];exact h)
 rw[List.length_map] at this
 have e:=ZnF dn s.1 s.2.1 s.2.2
 rw[show (s.1,s.2.1,s.2.2)=s from rfl] at e
 rw[e];exact this
theorem ZFj(x:List (Int×Int×Int))(hl:x.length≤8)(hok:∀ i,i<x.length→mOk (mDn x i) (x.getD i (0,0,0))):∀ i,i≤x.length→(mDn x i).length≤i∧∀ a∈mDn x i,0≤a.2.2.1∧a.2.2.1≤56:=by
 intro i
 induction i with
 |zero=>intro _;exact⟨by simp[mDn],by simp[mDn]⟩
 | succ i ih=>
   intro hi
   obtain⟨h1,h2⟩:=ih (by omega)
   obtain⟨k1,k2,k3,k4⟩:=hok i (by omega)
   rw[ZsS x (by omega)]
   generalize hs:x.getD i (0,0,0)=s at k1 k2 k3 k4 ⊢
   unfold Zq3
   split
   · refine⟨by simp only[List.length_append,List.length_cons,List.length_nil];omega,fun a ha=>?_⟩
     rw[List.mem_append,List.mem_singleton] at ha
     rcases ha with ha|rfl
     · exact h2 a ha
     · exact ZjM k3
   · split
     · rename_i e2
       have:=Ztt (mDn x i) s (by omega)
       have hp:0≤Zau (mDn x i,s):=k4.1 e2
       have hw:=ZpM (mDn x i) (Zau (mDn x i,s)) hp (by omega) (by omega)
       exact⟨by omega,fun a ha=>h2 a (ZvL _ _ ha)⟩
     · exact⟨by omega,h2⟩
theorem ZnP(dm:List (Int×Int))(q:Int×Int)(h:dm.length≤1048576):Zae (dm,q)=if Zcu (fun i=>decide (dm.getD i (0,0)=q)) dm.length 0<dm.length then ((Zcu (fun i=>decide (dm.getD i (0,0)=q)) dm.length 0:Nat):Int) else -1:=by
 rw[Zje]
 have e:=ZGE (c:=fun x0:Int=>(bAnd (iLt x0 (lLen dm)) (bNot (bAnd (iEq (lGet dm (iNat x0) (0,0)).1 q.1) (iEq (lGet dm (iNat x0) (0,0)).2 q.2))))) (f:=fun x0=>iAdd .i64 x0 1) dm.length (fun i=>decide (dm.getD i (0,0)=q)) (by omega)
  (fun i hi=>by
   simp only[ZaI,ZaA,Zan,ZaC,Zff,ZbJ,ZaK,Int.toNat_natCast,Int.ofNat_lt]
   congr 2
   rw[← Bool.decide_and]
   simp only[Prod.ext_iff]) (fun i hi=>rfl)
 simp only[e]
 rw[Zep,ZaA,Zan]
 simp only[decide_eq_true_eq,Int.ofNat_lt]
theorem Zu4(dm:List (Int×Int))(q:Int×Int)(h:dm.length≤1000)(hp:Zae (dm,q)<0):Zae (dm++[q],q)=dm.length:=by
 rw[ZnP _ _ (by omega)] at hp
 have hall:∀ i,i<dm.length→decide (dm.getD i (0,0)=q)=false:=by
  refine firstAt_all.1 ?_
  have:=ZgO (fun i=>decide (dm.getD i (0,0)=q)) dm.length 0
  split at hp
  · omega
  · omega
 rw[ZnP _ _ (by rw[List.length_append,List.length_cons,List.length_nil];omega)]
 have hl:(dm++[q]).length=dm.length+1:=by simp
 rw[hl]
 have hlast:(dm++[q]).getD dm.length (0,0)=q:=by rw[List.getD_eq_getElem?_getD];simp
 have hold:∀ i,i<dm.length→(dm++[q]).getD i (0,0)=dm.getD i (0,0):=fun i hi=>by rw[List.getD_eq_getElem?_getD,List.getD_eq_getElem?_getD,List.getElem?_append_left hi]
 generalize hk:Zcu (fun i=>decide ((dm++[q]).getD i (0,0)=q)) (dm.length+1) 0=k
 have a1:=ZgO (fun i=>decide ((dm++[q]).getD i (0,0)=q)) (dm.length+1) 0
 have a2:=Zju (fun i=>decide ((dm++[q]).getD i (0,0)=q)) (dm.length+1) 0 dm.length (by omega)
 have a3:=Zik (fun i=>decide ((dm++[q]).getD i (0,0)=q)) (dm.length+1) 0
 rw[hk] at a1 a2 a3
 have b1:¬ dm.length<k:=fun h=>by have:=a2 h;rw[hlast] at this;simp at this
 have b2:¬ k<dm.length:=fun h=>by
  have:=a3 (by omega)
  rw[hold k h,hall k h] at this
  cases this
 have:k=dm.length:=by omega
 rw[if_pos (by omega),this]
theorem ZuI(dn:HdX)(a:Int×Int×Int×Int×Int)(h:dn.length≤1000):Zay (dn++[a],(dn.length:Int))=dn:=by
 rw[Ze9]
 have e:iAdd .i64 (dn.length:Int) 1=dn.length+1:=Zby (by unfold Zo0;omega)
 simp only[e,ZcT,Zk1,Zuz,ZaK,List.nil_append,Int.toNat_natCast,List.drop_zero,Nat.sub_zero]
 have e2:((dn.length:Int)+1).toNat=dn.length+1:=by omega
 rw[e2,List.take_left',List.drop_eq_nil_of_le (by simp)]
 · simp
 · rfl
theorem ZA4(dn:HdX)(s:Int×Int×Int)(h:dn.length≤1000)(hp:Zau (dn,s)<0):Zau (dn++[mA s],s)=dn.length:=by
 have e:=ZnF dn s.1 s.2.1 s.2.2
 have e':=ZnF (dn++[mA s]) s.1 s.2.1 s.2.2
 rw[show (s.1,s.2.1,s.2.2)=s from rfl] at e e'
 rw[e] at hp
 rw[e',List.map_append,List.map_cons,List.map_nil]
 have:=Zu4 (dn.map pi5) (s.2.1,s.2.2) (by rw[List.length_map];exact h) hp
 rw[List.length_map] at this
 exact this
theorem ZoE(l:HdX)(x:List (Int×Int×Int))(hl:l.length≤1048576)(hx:x.length≤1048576) :
 ZbW (l,x)∧Zbw (l,x)∧Zad (l,x)=Zao (l,x)∧((Zao (l,x)).length≤1048576∧∀ r∈Zao (l,x),r.2.length≤1048576):=by
 have o1:=Zkb l hl
 have o2:=Zko l hl
 have o3:=Zrh x hx
 have o4:=ZrE x hx
 rw[ZlD,ZlH,ZlE,ZlF]
 simp only[ZpQ,← ZxD x hx]
 by_cases hg:ZaH l=true∧Za6 x=true
 case neg=>
  have hb:bOr (bNot (ZaH l)) (bNot (Za6 x))=true:=by
   rw[ZhG,ZaC,ZaC]
   cases h1:ZaH l<;>cases h2:Za6 x<;>simp_all
  rw[hb]
  simp only[Zjx]
  refine⟨⟨⟨o1,fun _=>trivial,fun _=>o3⟩,fun _=>trivial,fun h=>by cases h⟩,⟨⟨o2,fun _=>trivial,fun _=>o4⟩,fun _=>trivial,fun h=>by cases h⟩,trivial,⟨by simp,by simp⟩⟩
 case pos=>
  obtain⟨hh,hm⟩:=hg
  have hb:bOr (bNot (ZaH l)) (bNot (Za6 x))=false:=by rw[ZhG,ZaC,ZaC,hh,hm];rfl
  rw[hb]
  simp only[Zj9]
  obtain⟨x8,_,hok⟩:=Zv5 x hx hm
  have inv:=ZFj x x8 hok
  obtain⟨_,or2,_,_⟩:=ZkX l hl
  have rep:∀ dn:HdX,dn.length≤1000→(∀ a∈dn,0≤a.2.2.1∧a.2.2.1≤56)→Zb2 (l,dn)∧ZbN (Zai l,dn.map pi5)∧Za4 (Zai l,dn.map pi5)=ZaO (l,dn)∧(ZaO (l,dn)).2.length≤1048576:=by
   intro dn h1 h2
   obtain⟨a1,a2,a3,a4,a5,_⟩:=Zxy l dn hl hh h1 h2
   have:=ZvP _ 1 56 a4 (fun z hz=>by
    rcases (a5 z).1 hz with h|⟨h,hz⟩
    · exact(ZtP l hl hh).2 z h
    · obtain⟨q,hq,rfl⟩:=List.mem_map.1 h
      have:=h2 q hq
      omega) (by omega)
   exact⟨a1,a2,a3,by omega⟩
  obtain⟨a1,a2,⟨i,hi,out,e1,e2,e3,e4⟩,a4⟩:=Zxl (c:=Zb7 (l,x)) (f:=ZcX (l,x)) (p:=Zc0 (l,x)) (d:=ZcZ (l,x)) (g:=Zc1 (l,x)) (q:=Zc2 (l,x)) (x0:=([],[],0)) (y0:=([],[],0))
   (fun s t=>∃ i:Nat,i≤x.length∧∃ out:List (Int×List Int),s=(out,mDn x i,(i:Int))∧t=(out,(mDn x i).map pi5,(i:Int))∧out.length≤2*i∧∀ r∈out,r.2.length≤1048576) (fun s=>x.length-s.2.2.toNat) (by
    rintro s t ⟨i,hi,out,rfl,rfl,ho,hr⟩
    obtain⟨d1,d2⟩:=inv i hi
    have s1:iAdd .i64 (i:Int) 1=((i+1:Nat):Int):=by rw[Zby (by unfold Zo0;omega)];simp
    by_cases hlt:i<x.length
    case neg=>
     have hn:iLt (i:Int) (lLen x)=false:=by rw[ZaA,Zan];simp;omega
     refine⟨?_,?_,rfl,fun h=>?_⟩
     · simp only[Zc0,hn];exact⟨fun h=>(by cases h),fun _=>trivial⟩
     · simp only[Zc2,hn];exact⟨fun h=>(by cases h),fun _=>trivial⟩
     · simp only[Zb7,hn] at h;cases h
    case pos=>
    have ht:iLt (i:Int) (lLen x)=true:=by rw[ZaA,Zan];simp;omega
    have hk:=hok i hlt
    have hsucc:=ZsS x hlt
    obtain⟨d1',d2'⟩:=inv (i+1) hlt
    have hget:lGet x (iNat (i:Int)) (0,0,0)=x.getD i (0,0,0):=by rw[ZbJ,ZaK,Int.toNat_natCast]
    have hin:iNat (i:Int)<x.length:=by rw[ZaK];simpa using hlt
    simp only[Zb7,ZcX,Zc0,ZcZ,Zc1,Zc2,hget,ht,s1,Zec,Zkl]
    generalize hs:x.getD i (0,0,0)=s at hk hsucc
    generalize hdn:mDn x i=dn at hk hsucc d1 d2
    obtain⟨K,c,m⟩:=s
    obtain⟨k1,k2,k3,k4⟩:=hk
    simp only at k1 k2 k3 k4
    have hcode:=ZjM k3
    simp only at hcode
    have ZD3:∀ a∈dn++[mA (K,c,m)],0≤a.2.2.1∧a.2.2.1≤56:=fun a ha=>by
     rw[List.mem_append,List.mem_singleton] at ha
     rcases ha with ha|rfl
     · exact d2 a ha
     · exact hcode
    have mapp:(dn++[mA (K,c,m)]).map pi5=lApp (dn.map pi5) [(c,m)]:=by rw[ZcT,List.map_append];rfl
    have lapp:lApp dn [(0,2,c,m,0)]=dn++[mA (K,c,m)]:=by rw[ZcT];rfl
    have hml:(dn.map pi5).length=dn.length:=List.length_map ..
    have len1:(lApp (dn.map pi5) [(c,m)]).length=dn.length+1:=by rw[← mapp,List.length_map];simp
    obtain⟨p1,p2,p3,p4⟩:=rep (dn++[mA (K,c,m)]) (by rw[List.length_append,List.length_cons,List.length_nil];omega) ZD3
    obtain⟨q1,q2,q3,q4⟩:=rep dn (by omega) d2
    rw[mapp] at p2 p3
    have lo:∀ r:Int×List Int,(lApp out [r]).length=out.length+1:=fun r=>by rw[ZcT];simp
    have lo2:∀ r r':Int×List Int,(lApp (lApp out [r]) [r']).length=out.length+2:=fun r r'=>by rw[ZcT,ZcT];simp
    have hlr:∀ r:Int×List Int,([r]:List (Int×List Int)).length=1:=fun _=>rfl
    have ro:∀ n:Nat,n≤1000→∀ w:Nat,w≤5→Zbu (n*w):=fun n hn w hw=>ZiR (by omega) (by omega)
    rcases (show K=0∨K=1∨K=2 by omega) with rfl|rfl|rfl
    ·
     have e01:iNe 0 1=true:=by rw[Zdz];rfl
     have e02:iNe 0 2=true:=by rw[Zdz];rfl
     have e00:iEq 0 0=true:=by rw[Zff];rfl
     have hneg:Zau (dn,0,c,m)<0:=by
      rcases Ztt dn (0,c,m) (by omega) with h|h
      · omega
      · exact absurd (k4.2 h.1) (by decide)
     have fl:=ZA4 dn (0,c,m) (by omega) hneg
     have wl:=ZuI dn (mA (0,c,m)) (by omega)
     have okf:Zcf (dn++[mA (0,c,m)],0,c,m):=Zvw _ _ (by rw[List.length_append,List.length_cons,List.length_nil];omega)
     have okw:ZbK (dn++[mA (0,c,m)],(dn.length:Int)):=Zm3 _ _ (by omega) (by rw[List.length_append,List.length_cons,List.length_nil];omega) (by rw[List.length_append,List.length_cons,List.length_nil];omega)
     have hst:Zq3 dn (0,c,m)=dn:=by unfold Zq3;simp
     rw[hst] at hsucc
     simp only[e01,e02,e00,Zjx,lapp,fl,wl,p3,q3]
     refine⟨⟨fun _=>⟨⟨by omega,by omega⟩,hin,⟨fun _=>⟨trivial,ro _ (by simp only[List.length_cons,List.length_nil];omega) _ (by omega),p1,ro _ (by rw[hlr];omega) _ (by omega)⟩,fun _=>trivial⟩,⟨fun _=>⟨okf,okw,q1,ro _ (by rw[lo,hlr];omega) _ (by omega)⟩,fun _=>trivial⟩⟩,fun _=>trivial⟩,
      ⟨fun _=>⟨⟨by omega,by omega⟩,hin,⟨fun _=>⟨ro _ (by omega) _ (by omega),ro _ (by rw[hml];simp only[List.length_cons,List.length_nil];omega) _ (by omega),p2,ro _ (by rw[hlr];omega) _ (by omega)⟩,fun h=>by cases h⟩,q2,ro _ (by rw[lo,hlr];omega) _ (by omega)⟩,fun _=>trivial⟩,trivial,fun _=>⟨⟨i+1,hlt,_,by rw[hsucc],by rw[hsucc],by rw[lo2];omega,fun r hr'=>?_⟩,by omega⟩⟩
     simp only[ZcT,List.mem_append,List.mem_singleton] at hr'
     rcases hr' with(h|rfl)|rfl
     · exact hr r h
     · exact p4
     · exact q4
    ·
     have e01:iNe 1 1=false:=by rw[Zdz];rfl
     have e02:iNe 1 2=true:=by rw[Zdz];rfl
     have e00:iEq 1 0=false:=by rw[Zff];rfl
     have e11:iEq 1 1=true:=by rw[Zff];rfl
     have hst:Zq3 dn (1,c,m)=dn++[mA (1,c,m)]:=by unfold Zq3;simp
     rw[hst] at hsucc
     simp only[e01,e02,e00,e11,Zjx,Zj9,lapp,p3]
     refine⟨⟨fun _=>⟨⟨by omega,by omega⟩,hin,⟨fun _=>⟨trivial,ro _ (by simp only[List.length_cons,List.length_nil];omega) _ (by omega),p1,ro _ (by rw[hlr];omega) _ (by omega)⟩,fun _=>trivial⟩,⟨fun h=>(by cases h),fun _=>trivial⟩⟩,fun _=>trivial⟩,
      ⟨fun _=>⟨⟨by omega,by omega⟩,hin,⟨fun h=>(by cases h),fun _=>⟨fun _=>ro _ (by rw[hml];simp only[List.length_cons,List.length_nil];omega) _ (by omega),fun h=>by cases h⟩⟩,p2,ro _ (by rw[hlr];omega) _ (by omega)⟩,fun _=>trivial⟩,trivial,fun _=>⟨⟨i+1,hlt,_,by rw[hsucc],by rw[hsucc,mapp],by rw[lo];omega,fun r hr'=>?_⟩,by omega⟩⟩
     simp only[ZcT,List.mem_append,List.mem_singleton] at hr'
     rcases hr' with h|rfl
     · exact hr r h
     · exact p4
    ·
     have e01:iNe 2 1=true:=by rw[Zdz];rfl
     have e02:iNe 2 2=false:=by rw[Zdz];rfl
     have e00:iEq 2 0=false:=by rw[Zff];rfl
     have e11:iEq 2 1=false:=by rw[Zff];rfl
     have e22:iEq 2 2=true:=by rw[Zff];rfl
     have hp:0≤Zau (dn,2,c,m):=k4.1 rfl
     have hp2:Zau (dn,2,c,m)<dn.length:=by
      rcases Ztt dn (2,c,m) (by omega) with h|h
      · omega
      · exact h.2
     have hst:Zq3 dn (2,c,m)=Zay (dn,Zau (dn,2,c,m)):=by unfold Zq3;simp
     rw[hst] at hsucc
     have hfe:=ZnF dn 2 c m
     have wm:=Zp2 dn _ hp hp2
     have okf:Zcf (dn,2,c,m):=Zvw _ _ (by omega)
     have okw:=Zm3 dn _ hp hp2 (by omega)
     have okp:ZcJ (dn.map pi5,c,m):=Zy2 _ _ (by omega)
     rw[hsucc] at d1' d2'
     obtain⟨w1,w2,w3,w4⟩:=rep _ (by omega) d2'
     rw[hfe] at hp hp2 okw w1 w2 w3 w4 wm hsucc
     rw[wm] at w2 w3
     generalize Zae (dn.map pi5,c,m)=p at hp hp2 okw w1 w2 w3 w4 wm hsucc hfe ⊢
     have sp:iAdd .i64 p 1=p+1:=Zby (by unfold Zo0;omega)
     simp only[e01,e02,e00,e11,e22,Zjx,Zj9,hfe,w3]
     refine⟨⟨fun _=>⟨⟨by omega,by omega⟩,hin,⟨fun h=>(by cases h),fun _=>trivial⟩,⟨fun _=>⟨okf,okw,w1,ro _ (by rw[hlr];omega) _ (by omega)⟩,fun _=>trivial⟩⟩,fun _=>trivial⟩,
      ⟨fun _=>⟨⟨by omega,by omega⟩,hin,⟨fun h=>(by cases h),fun _=>⟨fun h=>(by cases h),fun _=>⟨fun _=>⟨okp,?_⟩,fun h=>by cases h⟩⟩⟩,w2,ro _ (by rw[hlr];omega) _ (by omega)⟩,fun _=>trivial⟩,trivial,fun _=>⟨⟨i+1,hlt,_,by rw[hsucc],by rw[hsucc,wm],by rw[lo];omega,fun r hr'=>?_⟩,by omega⟩⟩
     · rw[sp]
       simp only[ZaK,Zuz,Zk1,List.drop_zero,Nat.sub_zero,List.length_take,List.length_drop,hml]
       exact⟨⟨hp,by omega,by omega,by omega⟩,⟨by omega,by omega,by omega,by omega⟩,by omega,by omega,ZiR (by omega) (by omega)⟩
     · simp only[ZcT,List.mem_append,List.mem_singleton] at hr'
       rcases hr' with h|rfl
       · exact hr r h
       · exact w4) ⟨0,Nat.zero_le _,[],rfl,rfl,by simp,by simp⟩
  refine⟨⟨⟨o1,fun _=>trivial,fun _=>o3⟩,fun h=>(by cases h),fun _=>a1⟩,⟨⟨o2,fun _=>trivial,fun _=>o4⟩,fun h=>(by cases h),fun _=>⟨or2,a2⟩⟩,by rw[e1,e2],?_⟩
  rw[e1]
  exact⟨by simp only;omega,fun r hr=>e4 r hr⟩
end
section
set_option maxRecDepth 8000
def Znk:DCode:=
 (.seq [1,0] (.region [oa 0 4 (.mv (.c (.bool false)))])
 (.seq [1,0] (.seq [10,1,0] (.region [on 0 6 0,
 oa 1 7 (.len (.t 6)),
 on 2 8 1,
 oa 3 9 (.len (.t 8)),
 oa 4 10 (.bin .neq (.t 7) (.t 9))])
  (.cond (.t 10) (.seq [4] (.region [oa 0 4 (.mv (.c (.bool false)))])
  .ret) .skip))
  (.seq [] (.seq [5,1,0] (.region [oi 0 5 0])
  (.block 0 (.loop [0,1,5] 1 (.seq [5,1,0] (.seq [14,5,1,0] (.region [om 0 11 5,
 on 1 12 0,
 oa 2 13 (.len (.t 12)),
 oa 3 14 (.bin .lss (.t 11) (.t 13))])
  (.cond (.t 14) .skip (.exit 0)))
  (.seq [5,1,0] (.block 1 (.seq [26,5,1,0] (.region [on 0 17 0,
 om 1 18 5,
 xA 2 19 (.indexA 2 (.t 17) (.t 18)) (rg 2),
 xA 3 20 (.loadH (some 2) (.t 19)) (rg 3),
 on 4 21 1,
 om 5 22 5,
 xA 6 23 (.indexA 2 (.t 21) (.t 22)) [4,5],
 xA 7 24 (.loadH (some 2) (.t 23)) [4,5,6],
 xC 8 25 ZdD ZeQ Zkz [(.t 20),(.t 24)] (rg 8),
 xA 9 26 (.un .not (.t 25)) (rg 9)])
  (.cond (.t 26) (.seq [4] (.region [oa 0 4 (.mv (.c (.bool false)))])
  .ret) .skip)))
  (.region [om 0 15 5,
 oa 1 16 (.bin .add (.t 15) (.c (.int .i64 1))),
 om 2 5 16]))))))
  (.seq [4] (.region [oa 0 4 (.mv (.c (.bool true)))])
  .ret))))
def df_laws_eqReportS:DFun:=⟨2,27,0,true,[.tmp 4],Znk⟩
@[irreducible] def Zbh:Zar:=Za5 df_laws_eqReportS.er.er
@[irreducible] def Zcz:ZfF:=ZaQ df_laws_eqReportS.er
theorem ZgH:Zbd Zbh Zcz:=by unfold Zbh Zcz;exact Zav (f:=df_laws_eqReportS.er) ⟨ZoO,trivial⟩
def Zfu:List HT:=[.one .frz (.sl (.cons (.int .i64) (.one (.sl (.one (.int .i64)))))),.one .frz (.sl (.cons (.int .i64) (.one (.sl (.one (.int .i64))))))]
def Zfz:QT:=.one (.one .own (.bool))
@[irreducible] def ZaS(x:(List (Int×List (Int)))×(List (Int×List (Int)))):Bool:=(shut fun x=>fnV df_laws_eqReportS Zfu Zfz x).1 x
@[irreducible] def ZbM(x:(List (Int×List (Int)))×(List (Int×List (Int)))):Prop:=(shut fun x=>ZhR df_laws_eqReportS Zfu Zfz x).1 x
def ZfB:ZhA:=ZbC Zfu Zfz ZbM ZaS
theorem ZgF:Zbp Zcz ZfB:=by unfold Zcz;exact Zaz (f:=df_laws_eqReportS) (hs:=Zfu) (q:=Zfz) ⟨ZoL,trivial⟩ (by kernel_rfl) (fun x=>by kernel_rfl) (fun x h=>by unfold ZbM at h;exact Eq.mp (congrFun (shut _).2 x) h) (fun x=>by unfold ZaS;exact(congrFun (shut _).2 x).symm)
def Zka:ZhZ:=
 (.seq (.region [⟨0,some 4,.mv (.c (.int .i64 0)),none,[]⟩])
 (.seq (.seq (.region [⟨0,some 5,.mv (.c (.int .i64 0)),none,[]⟩])
 (.block 0 (.loop [0,1,5] (.seq (.seq (.region [⟨0,some 6,.mv (.t 5),none,[]⟩,
 ⟨1,some 7,.mv (.t 0),none,[]⟩,
 ⟨2,some 8,.len (.t 7),none,[]⟩,
 ⟨3,some 9,.bin .lss (.t 6) (.t 8),none,[]⟩])
  (.cond (.t 9) .skip (.exit 0)))
  (.seq (.block 1 (.seq (.region [⟨0,some 12,.mv (.t 0),none,[]⟩,
 ⟨1,some 13,.mv (.t 5),none,[]⟩,
 ⟨2,some 14,.mv (.t 1),none,[]⟩,
 ⟨3,some 15,.indexA 5 (.t 12) (.t 13),none,[]⟩,
 ⟨4,some 16,.fieldA 0 (.t 15),none,[]⟩,
 ⟨5,none,.storeH 1 (.t 16) (.t 14),none,[]⟩])
  (.seq (.region [⟨0,some 17,.mv (.t 1),none,[]⟩,
 ⟨1,some 18,.bin .add (.t 17) (.c (.int .i64 1)),none,[]⟩,
 ⟨2,some 1,.mv (.t 18),none,[]⟩])
  (.seq (.region [⟨0,some 19,.mv (.t 0),none,[]⟩,
 ⟨1,some 20,.mv (.t 5),none,[]⟩,
 ⟨2,some 21,.mv (.t 1),none,[]⟩,
 ⟨3,some 22,.indexA 5 (.t 19) (.t 20),none,[]⟩,
 ⟨4,some 23,.fieldA 1 (.t 22),none,[]⟩,
 ⟨5,some 24,.fieldA 0 (.t 23),none,[]⟩,
 ⟨6,none,.storeH 1 (.t 24) (.t 21),none,[]⟩])
  (.seq (.region [⟨0,some 25,.mv (.t 1),none,[]⟩,
 ⟨1,some 26,.bin .add (.t 25) (.c (.int .i64 1)),none,[]⟩,
 ⟨2,some 1,.mv (.t 26),none,[]⟩])
  (.seq (.region [⟨0,some 27,.mv (.t 0),none,[]⟩,
 ⟨1,some 28,.mv (.t 5),none,[]⟩,
 ⟨2,some 29,.mv (.t 1),none,[]⟩,
 ⟨3,some 30,.indexA 5 (.t 27) (.t 28),none,[]⟩,
 ⟨4,some 31,.fieldA 1 (.t 30),none,[]⟩,
 ⟨5,some 32,.fieldA 1 (.t 31),none,[]⟩,
 ⟨6,none,.storeH 1 (.t 32) (.t 29),none,[]⟩])
  (.seq (.region [⟨0,some 33,.mv (.t 1),none,[]⟩,
 ⟨1,some 34,.bin .add (.t 33) (.c (.int .i64 1)),none,[]⟩,
 ⟨2,some 1,.mv (.t 34),none,[]⟩])
  (.seq (.region [⟨0,some 35,.mv (.t 0),none,[]⟩,
 ⟨1,some 36,.mv (.t 5),none,[]⟩,
 ⟨2,some 37,.mv (.t 1),none,[]⟩,
 ⟨3,some 38,.indexA 5 (.t 35) (.t 36),none,[]⟩,
 ⟨4,some 39,.fieldA 1 (.t 38),none,[]⟩,
 ⟨5,some 40,.fieldA 2 (.t 39),none,[]⟩,
 ⟨6,none,.storeH 1 (.t 40) (.t 37),none,[]⟩])
  (.seq (.region [⟨0,some 41,.mv (.t 1),none,[]⟩,
 ⟨1,some 42,.bin .add (.t 41) (.c (.int .i64 1)),none,[]⟩,
 ⟨2,some 1,.mv (.t 42),none,[]⟩])
  (.seq (.region [⟨0,some 43,.mv (.t 0),none,[]⟩,
 ⟨1,some 44,.mv (.t 5),none,[]⟩,
 ⟨2,some 45,.mv (.t 1),none,[]⟩,
 ⟨3,some 46,.indexA 5 (.t 43) (.t 44),none,[]⟩,
 ⟨4,some 47,.fieldA 1 (.t 46),none,[]⟩,
 ⟨5,some 48,.fieldA 3 (.t 47),none,[]⟩,
 ⟨6,none,.storeH 1 (.t 48) (.t 45),none,[]⟩])
  (.region [⟨0,some 49,.mv (.t 1),none,[]⟩,
 ⟨1,some 50,.bin .add (.t 49) (.c (.int .i64 1)),none,[]⟩,
 ⟨2,some 1,.mv (.t 50),none,[]⟩])))))))))))
  (.region [⟨0,some 10,.mv (.t 5),none,[]⟩,
 ⟨1,some 11,.bin .add (.t 10) (.c (.int .i64 1)),none,[]⟩,
 ⟨2,some 5,.mv (.t 11),none,[]⟩]))))))
  (.seq (.region [⟨0,some 51,.mv (.t 1),none,[]⟩,
 ⟨1,some 4,.mv (.t 51),none,[]⟩])
  .ret)))
def ZhC:ZAy:=⟨2,52,0,false,[.tmp 4],Zka⟩
@[irreducible] def Zb4:Zar:=Za5 ZhC
@[irreducible] def ZaR(x:List (Int×Int×Int×Int×Int))(m:Int):(List (Int×Int×Int×Int×Int))×Int:=(shut fun(x:List (Int×Int×Int×Int×Int)) (m:Int)=>mkL (RT.mkI rI5) x m).1 x m
@[irreducible] def Zdo(x:List (Int×Int×Int×Int×Int)):Prop:=(shut fun(x:List (Int×Int×Int×Int×Int))=>CT.wl (.sl rI5) x).1 x
theorem Zi3:ZaR=fun x m=>mkL (RT.mkI rI5) x m:=by unfold ZaR;exact(shut _).2
theorem Zi5:Zdo=fun x=>CT.wl (.sl rI5) x:=by unfold Zdo;exact(shut _).2
theorem ZnC:SlC Zb4 rI5:=by
 rintro h ω hd p l u m Q hok hinj hM hQ
 have hn:=hM.len
 have hlb:l.length≤9223372036854775807:=hok.1
 unfold Zb4
 refine ZmM rfl ?_
 unfold Zka
 repeat' (first|(simp only[go_sem,reduceIte,reduceCtorEq,Nat.reduceAdd,Nat.reduceBEq,Int.reduceLT,Int.reduceLE,Int.reduceGT,Int.reduceGE,Int.reduceBEq,Int.reduceBNe,Nat.reduceEqDiff,Nat.reduceLeDiff,Nat.reduceLT,hn])|(refine ZdP rfl (fun hb=>?_) (fun hb=>?_)<;>simp only[hb,go_sem,reduceIte,reduceCtorEq,Nat.reduceAdd,Nat.reduceBEq,Int.reduceLT,Int.reduceLE,Int.reduceGT,Int.reduceGE,Int.reduceBEq,Int.reduceBNe,Nat.reduceEqDiff,Nat.reduceLeDiff,Nat.reduceLT,hn])|(refine Zfc rfl (fun hb=>?_) (fun hb=>?_)<;>simp only[hb,go_sem,reduceIte,reduceCtorEq,Nat.reduceAdd,Nat.reduceBEq,Int.reduceLT,Int.reduceLE,Int.reduceGT,Int.reduceGE,Int.reduceBEq,Int.reduceBNe,Nat.reduceEqDiff,Nat.reduceLeDiff,Nat.reduceLT,hn])|(refine Zbo rfl (fun hb=>?_) (fun hb=>?_)<;>simp only[hb,go_sem,reduceIte,reduceCtorEq,Nat.reduceAdd,Nat.reduceBEq,Int.reduceLT,Int.reduceLE,Int.reduceGT,Int.reduceGE,Int.reduceBEq,Int.reduceBNe,Nat.reduceEqDiff,Nat.reduceLeDiff,Nat.reduceLT,hn]))
 refine Ztw l.length (fun i st=>∃ h',st=⟨[u,.int .i64 (Zds (RT.mkI rI5) l m i).2,.undef,.undef,.undef,.int .i64 (i:Int)]++ZvZ 46,[],h'⟩∧Only (Zp7 ω hd p) h h'∧MS h' ω hd p rI5 (Zds (RT.mkI rI5) l m i).1 u) ?_ ?_
 · refine⟨h,?_,Only.refl _ _,hM⟩
   simp only[ZjE,keep,Int.natCast_zero]
   rfl
 · rintro i st next hi ⟨h1,rfl,hO,hR⟩ hnx
   by_cases hlt:i<l.length
   · have hc:decide ((i:Int)<(l.length:Int))=true:=decide_eq_true (by omega)
     have hw:IntKind.i64.wrap ((i:Int)+1)=((i+1:Nat):Int):=by rw[ZA8 (by omega)];omega
     obtain⟨b,hub⟩:=hR.slice (by rw[Zfr];omega)
     rw[Zfr] at hub
     subst hub
     cases hL:Zds (RT.mkI rI5) l m i with
     |mk L k0=>
     rw[hL] at hR
     obtain⟨hLl,hs,hx0⟩:=Zll hlt hL
     have hiL:i<L.length:=by omega
     have hwx:=ZwZ hok hlt
     rw[← hx0] at hwx
     have R0:=MS.frame hR hiL
     clear hx0
     generalize hx0:List.getD L i (RT.dflt rI5)=x0 at R0 hs hwx
     clear hx0
     have hx:=ZtB (b:=b) (w:=5) hlt (k:=.i64)
     simp only
     obtain⟨h2,s0,o0,R1⟩:=MS.st R0 hiL (off:=0) (by decide) (v:=(.int .i64 k0)) rfl rfl (y:=((k0,x0.2.1,x0.2.2.1,x0.2.2.2.1,x0.2.2.2.2):RT.D rI5)) rfl hinj []
     replace s0:Zeb [] h1 1 (.ptr b (i*5)) (.int .i64 k0)=some (.undef,[],h2):=s0
     obtain⟨h3,s1,o1,R2⟩:=MS.st R1 hiL (off:=1) (by decide) (v:=(.int .i64 (IntKind.i64.wrap (k0+1)))) rfl rfl (y:=((k0,(IntKind.i64.wrap (k0+1)),x0.2.2.1,x0.2.2.2.1,x0.2.2.2.2):RT.D rI5)) rfl hinj []
     replace s1:Zeb [] h2 1 (.ptr b (i*5+1)) (.int .i64 (IntKind.i64.wrap (k0+1)))=some (.undef,[],h3):=s1
     obtain⟨h4,s2,o2,R3⟩:=MS.st R2 hiL (off:=2) (by decide) (v:=(.int .i64 (IntKind.i64.wrap (IntKind.i64.wrap (k0+1)+1)))) rfl rfl (y:=((k0,(IntKind.i64.wrap (k0+1)),(IntKind.i64.wrap (IntKind.i64.wrap (k0+1)+1)),x0.2.2.2.1,x0.2.2.2.2):RT.D rI5)) rfl hinj []
     replace s2:Zeb [] h3 1 (.ptr b (i*5+1+1)) (.int .i64 (IntKind.i64.wrap (IntKind.i64.wrap (k0+1)+1)))=some (.undef,[],h4):=s2
     obtain⟨h5,s3,o3,R4⟩:=MS.st R3 hiL (off:=3) (by decide) (v:=(.int .i64 (IntKind.i64.wrap (IntKind.i64.wrap (IntKind.i64.wrap (k0+1)+1)+1)))) rfl rfl (y:=((k0,(IntKind.i64.wrap (k0+1)),(IntKind.i64.wrap (IntKind.i64.wrap (k0+1)+1)),(IntKind.i64.wrap (IntKind.i64.wrap (IntKind.i64.wrap (k0+1)+1)+1)),x0.2.2.2.2):RT.D rI5)) rfl hinj []
     replace s3:Zeb [] h4 1 (.ptr b (i*5+1+2)) (.int .i64 (IntKind.i64.wrap (IntKind.i64.wrap (IntKind.i64.wrap (k0+1)+1)+1)))=some (.undef,[],h5):=s3
     obtain⟨h6,s4,o4,R5⟩:=MS.st R4 hiL (off:=4) (by decide) (v:=(.int .i64 (IntKind.i64.wrap (IntKind.i64.wrap (IntKind.i64.wrap (IntKind.i64.wrap (k0+1)+1)+1)+1)))) rfl rfl (y:=((k0,(IntKind.i64.wrap (k0+1)),(IntKind.i64.wrap (IntKind.i64.wrap (k0+1)+1)),(IntKind.i64.wrap (IntKind.i64.wrap (IntKind.i64.wrap (k0+1)+1)+1)),(IntKind.i64.wrap (IntKind.i64.wrap (IntKind.i64.wrap (IntKind.i64.wrap (k0+1)+1)+1)+1))):RT.D rI5)) rfl hinj []
     replace s4:Zeb [] h5 1 (.ptr b (i*5+1+3)) (.int .i64 (IntKind.i64.wrap (IntKind.i64.wrap (IntKind.i64.wrap (IntKind.i64.wrap (k0+1)+1)+1)+1)))=some (.undef,[],h6):=s4
     repeat' (first|(simp only[go_sem,reduceIte,reduceCtorEq,Nat.reduceAdd,Nat.reduceBEq,Int.reduceLT,Int.reduceLE,Int.reduceGT,Int.reduceGE,Int.reduceBEq,Int.reduceBNe,Nat.reduceEqDiff,Nat.reduceLeDiff,Nat.reduceLT,hn,hc,hw,hx,s0,s1,s2,s3,s4])|(refine ZdP rfl (fun hb=>?_) (fun hb=>?_)<;>simp only[hb,go_sem,reduceIte,reduceCtorEq,Nat.reduceAdd,Nat.reduceBEq,Int.reduceLT,Int.reduceLE,Int.reduceGT,Int.reduceGE,Int.reduceBEq,Int.reduceBNe,Nat.reduceEqDiff,Nat.reduceLeDiff,Nat.reduceLT,hn,hc,hw,hx,s0,s1,s2,s3,s4])|(refine Zfc rfl (fun hb=>?_) (fun hb=>?_)<;>simp only[hb,go_sem,reduceIte,reduceCtorEq,Nat.reduceAdd,Nat.reduceBEq,Int.reduceLT,Int.reduceLE,Int.reduceGT,Int.reduceGE,Int.reduceBEq,Int.reduceBNe,Nat.reduceEqDiff,Nat.reduceLeDiff,Nat.reduceLT,hn,hc,hw,hx,s0,s1,s2,s3,s4])|(refine Zbo rfl (fun hb=>?_) (fun hb=>?_)<;>simp only[hb,go_sem,reduceIte,reduceCtorEq,Nat.reduceAdd,Nat.reduceBEq,Int.reduceLT,Int.reduceLE,Int.reduceGT,Int.reduceGE,Int.reduceBEq,Int.reduceBNe,Nat.reduceEqDiff,Nat.reduceLeDiff,Nat.reduceLT,hn,hc,hw,hx,s0,s1,s2,s3,s4]))
     exact hnx _ hlt ⟨h6,by rw[hs];rfl,(Only.trans (Only.trans (Only.trans (Only.trans (Only.trans hO o0) o1) o2) o3) o4),by rw[hs];exact R5⟩
   · have hc:decide ((i:Int)<(l.length:Int))=false:=decide_eq_false (by omega)
     have hi':i=l.length:=by omega
     subst hi'
     repeat' (first|(simp only[go_sem,reduceIte,reduceCtorEq,Nat.reduceAdd,Nat.reduceBEq,Int.reduceLT,Int.reduceLE,Int.reduceGT,Int.reduceGE,Int.reduceBEq,Int.reduceBNe,Nat.reduceEqDiff,Nat.reduceLeDiff,Nat.reduceLT,hn,hc])|(refine ZdP rfl (fun hb=>?_) (fun hb=>?_)<;>simp only[hb,go_sem,reduceIte,reduceCtorEq,Nat.reduceAdd,Nat.reduceBEq,Int.reduceLT,Int.reduceLE,Int.reduceGT,Int.reduceGE,Int.reduceBEq,Int.reduceBNe,Nat.reduceEqDiff,Nat.reduceLeDiff,Nat.reduceLT,hn,hc])|(refine Zfc rfl (fun hb=>?_) (fun hb=>?_)<;>simp only[hb,go_sem,reduceIte,reduceCtorEq,Nat.reduceAdd,Nat.reduceBEq,Int.reduceLT,Int.reduceLE,Int.reduceGT,Int.reduceGE,Int.reduceBEq,Int.reduceBNe,Nat.reduceEqDiff,Nat.reduceLeDiff,Nat.reduceLT,hn,hc])|(refine Zbo rfl (fun hb=>?_) (fun hb=>?_)<;>simp only[hb,go_sem,reduceIte,reduceCtorEq,Nat.reduceAdd,Nat.reduceBEq,Int.reduceLT,Int.reduceLE,Int.reduceGT,Int.reduceGE,Int.reduceBEq,Int.reduceBNe,Nat.reduceEqDiff,Nat.reduceLeDiff,Nat.reduceLT,hn,hc]))
     have e:=Zhk (RT.mkI rI5) l m
     rw[e] at hR ⊢
     exact hQ h1 hO hR
theorem Znp:ZlQ Zb4 (ZG9 rI5).P:=SlC.sound ZnC
def Zhu:DMk:=⟨.one (.sl rI5),false,Zdo,ZaR,false⟩
theorem ZmX:ZlQ Zb4 (DMk.P Zhu):=by unfold Zhu;rw[Zi5,Zi3];exact Znp
def Zkm:ZhZ:=
 (.seq (.region [⟨0,some 4,.mv (.c (.int .i64 0)),none,[]⟩])
 (.seq (.seq (.region [⟨0,some 5,.mv (.c (.int .i64 0)),none,[]⟩])
 (.block 0 (.loop [0,1,5] (.seq (.seq (.region [⟨0,some 6,.mv (.t 5),none,[]⟩,
 ⟨1,some 7,.mv (.t 0),none,[]⟩,
 ⟨2,some 8,.len (.t 7),none,[]⟩,
 ⟨3,some 9,.bin .lss (.t 6) (.t 8),none,[]⟩])
  (.cond (.t 9) .skip (.exit 0)))
  (.seq (.block 1 (.seq (.region [⟨0,some 12,.mv (.t 0),none,[]⟩,
 ⟨1,some 13,.mv (.t 5),none,[]⟩,
 ⟨2,some 14,.mv (.t 1),none,[]⟩,
 ⟨3,some 15,.indexA 3 (.t 12) (.t 13),none,[]⟩,
 ⟨4,some 16,.fieldA 0 (.t 15),none,[]⟩,
 ⟨5,none,.storeH 1 (.t 16) (.t 14),none,[]⟩])
  (.seq (.region [⟨0,some 17,.mv (.t 1),none,[]⟩,
 ⟨1,some 18,.bin .add (.t 17) (.c (.int .i64 1)),none,[]⟩,
 ⟨2,some 1,.mv (.t 18),none,[]⟩])
  (.seq (.region [⟨0,some 19,.mv (.t 0),none,[]⟩,
 ⟨1,some 20,.mv (.t 5),none,[]⟩,
 ⟨2,some 21,.mv (.t 1),none,[]⟩,
 ⟨3,some 22,.indexA 3 (.t 19) (.t 20),none,[]⟩,
 ⟨4,some 23,.fieldA 1 (.t 22),none,[]⟩,
 ⟨5,none,.storeH 1 (.t 23) (.t 21),none,[]⟩])
  (.seq (.region [⟨0,some 24,.mv (.t 1),none,[]⟩,
 ⟨1,some 25,.bin .add (.t 24) (.c (.int .i64 1)),none,[]⟩,
 ⟨2,some 1,.mv (.t 25),none,[]⟩])
  (.seq (.region [⟨0,some 26,.mv (.t 0),none,[]⟩,
 ⟨1,some 27,.mv (.t 5),none,[]⟩,
 ⟨2,some 28,.mv (.t 1),none,[]⟩,
 ⟨3,some 29,.indexA 3 (.t 26) (.t 27),none,[]⟩,
 ⟨4,some 30,.fieldA 2 (.t 29),none,[]⟩,
 ⟨5,none,.storeH 1 (.t 30) (.t 28),none,[]⟩])
  (.region [⟨0,some 31,.mv (.t 1),none,[]⟩,
 ⟨1,some 32,.bin .add (.t 31) (.c (.int .i64 1)),none,[]⟩,
 ⟨2,some 1,.mv (.t 32),none,[]⟩])))))))
  (.region [⟨0,some 10,.mv (.t 5),none,[]⟩,
 ⟨1,some 11,.bin .add (.t 10) (.c (.int .i64 1)),none,[]⟩,
 ⟨2,some 5,.mv (.t 11),none,[]⟩]))))))
  (.seq (.region [⟨0,some 33,.mv (.t 1),none,[]⟩,
 ⟨1,some 4,.mv (.t 33),none,[]⟩])
  .ret)))
def Zho:ZAy:=⟨2,34,0,false,[.tmp 4],Zkm⟩
@[irreducible] def Zb5:Zar:=Za5 Zho
@[irreducible] def ZaW(x:List (Int×Int×Int))(m:Int):(List (Int×Int×Int))×Int:=(shut fun(x:List (Int×Int×Int)) (m:Int)=>mkL (RT.mkI rI3) x m).1 x m
@[irreducible] def Zdm(x:List (Int×Int×Int)):Prop:=(shut fun(x:List (Int×Int×Int))=>CT.wl (.sl rI3) x).1 x
theorem ZiY:ZaW=fun x m=>mkL (RT.mkI rI3) x m:=by unfold ZaW;exact(shut _).2
theorem Zi8:Zdm=fun x=>CT.wl (.sl rI3) x:=by unfold Zdm;exact(shut _).2
theorem Znq:SlC Zb5 rI3:=by
 rintro h ω hd p l u m Q hok hinj hM hQ
 have hn:=hM.len
 have hlb:l.length≤9223372036854775807:=hok.1
 unfold Zb5
 refine ZmM rfl ?_
 unfold Zkm
 repeat' (first|(simp only[go_sem,reduceIte,reduceCtorEq,Nat.reduceAdd,Nat.reduceBEq,Int.reduceLT,Int.reduceLE,Int.reduceGT,Int.reduceGE,Int.reduceBEq,Int.reduceBNe,Nat.reduceEqDiff,Nat.reduceLeDiff,Nat.reduceLT,hn])|(refine ZdP rfl (fun hb=>?_) (fun hb=>?_)<;>simp only[hb,go_sem,reduceIte,reduceCtorEq,Nat.reduceAdd,Nat.reduceBEq,Int.reduceLT,Int.reduceLE,Int.reduceGT,Int.reduceGE,Int.reduceBEq,Int.reduceBNe,Nat.reduceEqDiff,Nat.reduceLeDiff,Nat.reduceLT,hn])|(refine Zfc rfl (fun hb=>?_) (fun hb=>?_)<;>simp only[hb,go_sem,reduceIte,reduceCtorEq,Nat.reduceAdd,Nat.reduceBEq,Int.reduceLT,Int.reduceLE,Int.reduceGT,Int.reduceGE,Int.reduceBEq,Int.reduceBNe,Nat.reduceEqDiff,Nat.reduceLeDiff,Nat.reduceLT,hn])|(refine Zbo rfl (fun hb=>?_) (fun hb=>?_)<;>simp only[hb,go_sem,reduceIte,reduceCtorEq,Nat.reduceAdd,Nat.reduceBEq,Int.reduceLT,Int.reduceLE,Int.reduceGT,Int.reduceGE,Int.reduceBEq,Int.reduceBNe,Nat.reduceEqDiff,Nat.reduceLeDiff,Nat.reduceLT,hn]))
 refine Ztw l.length (fun i st=>∃ h',st=⟨[u,.int .i64 (Zds (RT.mkI rI3) l m i).2,.undef,.undef,.undef,.int .i64 (i:Int)]++ZvZ 28,[],h'⟩∧Only (Zp7 ω hd p) h h'∧MS h' ω hd p rI3 (Zds (RT.mkI rI3) l m i).1 u) ?_ ?_
 · refine⟨h,?_,Only.refl _ _,hM⟩
   simp only[ZjE,keep,Int.natCast_zero]
   rfl
 · rintro i st next hi ⟨h1,rfl,hO,hR⟩ hnx
   by_cases hlt:i<l.length
   · have hc:decide ((i:Int)<(l.length:Int))=true:=decide_eq_true (by omega)
     have hw:IntKind.i64.wrap ((i:Int)+1)=((i+1:Nat):Int):=by rw[ZA8 (by omega)];omega
     obtain⟨b,hub⟩:=hR.slice (by rw[Zfr];omega)
     rw[Zfr] at hub
     subst hub
     cases hL:Zds (RT.mkI rI3) l m i with
     |mk L k0=>
     rw[hL] at hR
     obtain⟨hLl,hs,hx0⟩:=Zll hlt hL
     have hiL:i<L.length:=by omega
     have hwx:=ZwZ hok hlt
     rw[← hx0] at hwx
     have R0:=MS.frame hR hiL
     clear hx0
     generalize hx0:List.getD L i (RT.dflt rI3)=x0 at R0 hs hwx
     clear hx0
     have hx:=ZtB (b:=b) (w:=3) hlt (k:=.i64)
     simp only
     obtain⟨h2,s0,o0,R1⟩:=MS.st R0 hiL (off:=0) (by decide) (v:=(.int .i64 k0)) rfl rfl (y:=((k0,x0.2.1,x0.2.2):RT.D rI3)) rfl hinj []
     replace s0:Zeb [] h1 1 (.ptr b (i*3)) (.int .i64 k0)=some (.undef,[],h2):=s0
     obtain⟨h3,s1,o1,R2⟩:=MS.st R1 hiL (off:=1) (by decide) (v:=(.int .i64 (IntKind.i64.wrap (k0+1)))) rfl rfl (y:=((k0,(IntKind.i64.wrap (k0+1)),x0.2.2):RT.D rI3)) rfl hinj []
     replace s1:Zeb [] h2 1 (.ptr b (i*3+1)) (.int .i64 (IntKind.i64.wrap (k0+1)))=some (.undef,[],h3):=s1
     obtain⟨h4,s2,o2,R3⟩:=MS.st R2 hiL (off:=2) (by decide) (v:=(.int .i64 (IntKind.i64.wrap (IntKind.i64.wrap (k0+1)+1)))) rfl rfl (y:=((k0,(IntKind.i64.wrap (k0+1)),(IntKind.i64.wrap (IntKind.i64.wrap (k0+1)+1))):RT.D rI3)) rfl hinj []
     replace s2:Zeb [] h3 1 (.ptr b (i*3+2)) (.int .i64 (IntKind.i64.wrap (IntKind.i64.wrap (k0+1)+1)))=some (.undef,[],h4):=s2
     repeat' (first|(simp only[go_sem,reduceIte,reduceCtorEq,Nat.reduceAdd,Nat.reduceBEq,Int.reduceLT,Int.reduceLE,Int.reduceGT,Int.reduceGE,Int.reduceBEq,Int.reduceBNe,Nat.reduceEqDiff,Nat.reduceLeDiff,Nat.reduceLT,hn,hc,hw,hx,s0,s1,s2])|(refine ZdP rfl (fun hb=>?_) (fun hb=>?_)<;>simp only[hb,go_sem,reduceIte,reduceCtorEq,Nat.reduceAdd,Nat.reduceBEq,Int.reduceLT,Int.reduceLE,Int.reduceGT,Int.reduceGE,Int.reduceBEq,Int.reduceBNe,Nat.reduceEqDiff,Nat.reduceLeDiff,Nat.reduceLT,hn,hc,hw,hx,s0,s1,s2])|(refine Zfc rfl (fun hb=>?_) (fun hb=>?_)<;>simp only[hb,go_sem,reduceIte,reduceCtorEq,Nat.reduceAdd,Nat.reduceBEq,Int.reduceLT,Int.reduceLE,Int.reduceGT,Int.reduceGE,Int.reduceBEq,Int.reduceBNe,Nat.reduceEqDiff,Nat.reduceLeDiff,Nat.reduceLT,hn,hc,hw,hx,s0,s1,s2])|(refine Zbo rfl (fun hb=>?_) (fun hb=>?_)<;>simp only[hb,go_sem,reduceIte,reduceCtorEq,Nat.reduceAdd,Nat.reduceBEq,Int.reduceLT,Int.reduceLE,Int.reduceGT,Int.reduceGE,Int.reduceBEq,Int.reduceBNe,Nat.reduceEqDiff,Nat.reduceLeDiff,Nat.reduceLT,hn,hc,hw,hx,s0,s1,s2]))
     exact hnx _ hlt ⟨h4,by rw[hs];rfl,(Only.trans (Only.trans (Only.trans hO o0) o1) o2),by rw[hs];exact R3⟩
   · have hc:decide ((i:Int)<(l.length:Int))=false:=decide_eq_false (by omega)
     have hi':i=l.length:=by omega
     subst hi'
     repeat' (first|(simp only[go_sem,reduceIte,reduceCtorEq,Nat.reduceAdd,Nat.reduceBEq,Int.reduceLT,Int.reduceLE,Int.reduceGT,Int.reduceGE,Int.reduceBEq,Int.reduceBNe,Nat.reduceEqDiff,Nat.reduceLeDiff,Nat.reduceLT,hn,hc])|(refine ZdP rfl (fun hb=>?_) (fun hb=>?_)<;>simp only[hb,go_sem,reduceIte,reduceCtorEq,Nat.reduceAdd,Nat.reduceBEq,Int.reduceLT,Int.reduceLE,Int.reduceGT,Int.reduceGE,Int.reduceBEq,Int.reduceBNe,Nat.reduceEqDiff,Nat.reduceLeDiff,Nat.reduceLT,hn,hc])|(refine Zfc rfl (fun hb=>?_) (fun hb=>?_)<;>simp only[hb,go_sem,reduceIte,reduceCtorEq,Nat.reduceAdd,Nat.reduceBEq,Int.reduceLT,Int.reduceLE,Int.reduceGT,Int.reduceGE,Int.reduceBEq,Int.reduceBNe,Nat.reduceEqDiff,Nat.reduceLeDiff,Nat.reduceLT,hn,hc])|(refine Zbo rfl (fun hb=>?_) (fun hb=>?_)<;>simp only[hb,go_sem,reduceIte,reduceCtorEq,Nat.reduceAdd,Nat.reduceBEq,Int.reduceLT,Int.reduceLE,Int.reduceGT,Int.reduceGE,Int.reduceBEq,Int.reduceBNe,Nat.reduceEqDiff,Nat.reduceLeDiff,Nat.reduceLT,hn,hc]))
     have e:=Zhk (RT.mkI rI3) l m
     rw[e] at hR ⊢
     exact hQ h1 hO hR
theorem Zny:ZlQ Zb5 (ZG9 rI3).P:=SlC.sound Znq
def ZhE:DMk:=⟨.one (.sl rI3),false,Zdm,ZaW,false⟩
theorem ZmO:ZlQ Zb5 (DMk.P ZhE):=by unfold ZhE;rw[Zi8,ZiY];exact Zny
def ZiZ:ZhZ:=
 (.seq (.region [⟨0,some 4,.mv (.c (.int .i64 0)),none,[]⟩])
 (.seq (.seq (.region [⟨0,some 5,.mv (.c (.int .i64 0)),none,[]⟩])
 (.block 0 (.loop [0,1,5] (.seq (.seq (.region [⟨0,some 6,.mv (.t 5),none,[]⟩,
 ⟨1,some 7,.mv (.t 0),none,[]⟩,
 ⟨2,some 8,.len (.t 7),none,[]⟩,
 ⟨3,some 9,.bin .lss (.t 6) (.t 8),none,[]⟩])
  (.cond (.t 9) .skip (.exit 0)))
  (.seq (.block 1 (.seq (.region [⟨0,some 12,.mv (.t 0),none,[]⟩,
 ⟨1,some 13,.mv (.t 5),none,[]⟩,
 ⟨2,some 14,.mv (.t 1),none,[]⟩,
 ⟨3,some 15,.indexA 2 (.t 12) (.t 13),none,[]⟩,
 ⟨4,some 16,.fieldA 0 (.t 15),none,[]⟩,
 ⟨5,none,.storeH 1 (.t 16) (.t 14),none,[]⟩])
  (.seq (.region [⟨0,some 17,.mv (.t 1),none,[]⟩,
 ⟨1,some 18,.bin .add (.t 17) (.c (.int .i64 1)),none,[]⟩,
 ⟨2,some 1,.mv (.t 18),none,[]⟩])
  (.region [⟨0,some 19,.mv (.t 0),none,[]⟩,
 ⟨1,some 20,.mv (.t 5),none,[]⟩,
 ⟨2,some 21,.indexA 2 (.t 19) (.t 20),none,[]⟩,
 ⟨3,some 22,.fieldA 1 (.t 21),none,[]⟩,
 ⟨4,some 23,.loadH none (.t 22),none,[]⟩,
 ⟨5,some 24,.mv (.t 1),none,[]⟩,
 ⟨6,some 25,.call ZdO [(.t 23),(.t 24)],none,[]⟩,
 ⟨7,some 1,.mv (.t 25),none,[]⟩]))))
  (.region [⟨0,some 10,.mv (.t 5),none,[]⟩,
 ⟨1,some 11,.bin .add (.t 10) (.c (.int .i64 1)),none,[]⟩,
 ⟨2,some 5,.mv (.t 11),none,[]⟩]))))))
  (.seq (.region [⟨0,some 26,.mv (.t 1),none,[]⟩,
 ⟨1,some 4,.mv (.t 26),none,[]⟩])
  .ret)))
def ZfV:ZAy:=⟨2,27,0,false,[.tmp 4],ZiZ⟩
@[irreducible] def Zbx:Zar:=Za5 ZfV
@[irreducible] def Zak(x:List (Int×List (Int)))(m:Int):(List (Int×List (Int)))×Int:=(shut fun(x:List (Int×List (Int))) (m:Int)=>mkL (RT.mkI (.cons (.int .i64) (.one (.sl (.one (.int .i64)))))) x m).1 x m
@[irreducible] def ZbX(x:List (Int×List (Int))):Prop:=(shut fun(x:List (Int×List (Int)))=>CT.wl (.sl (.cons (.int .i64) (.one (.sl (.one (.int .i64)))))) x).1 x
theorem ZhI:Zak=fun x m=>mkL (RT.mkI (.cons (.int .i64) (.one (.sl (.one (.int .i64)))))) x m:=by unfold Zak;exact(shut _).2
theorem ZhH:ZbX=fun x=>CT.wl (.sl (.cons (.int .i64) (.one (.sl (.one (.int .i64)))))) x:=by unfold ZbX;exact(shut _).2
theorem Zmb:SlC Zbx (.cons (.int .i64) (.one (.sl (.one (.int .i64))))):=by
 rintro h ω hd p l u m Q hok hinj hM hQ
 have hn:=hM.len
 have hlb:l.length≤9223372036854775807:=hok.1
 unfold Zbx
 refine ZmM rfl ?_
 unfold ZiZ
 repeat' (first|(simp only[go_sem,reduceIte,reduceCtorEq,Nat.reduceAdd,Nat.reduceBEq,Int.reduceLT,Int.reduceLE,Int.reduceGT,Int.reduceGE,Int.reduceBEq,Int.reduceBNe,Nat.reduceEqDiff,Nat.reduceLeDiff,Nat.reduceLT,hn])|(refine ZdP rfl (fun hb=>?_) (fun hb=>?_)<;>simp only[hb,go_sem,reduceIte,reduceCtorEq,Nat.reduceAdd,Nat.reduceBEq,Int.reduceLT,Int.reduceLE,Int.reduceGT,Int.reduceGE,Int.reduceBEq,Int.reduceBNe,Nat.reduceEqDiff,Nat.reduceLeDiff,Nat.reduceLT,hn])|(refine Zfc rfl (fun hb=>?_) (fun hb=>?_)<;>simp only[hb,go_sem,reduceIte,reduceCtorEq,Nat.reduceAdd,Nat.reduceBEq,Int.reduceLT,Int.reduceLE,Int.reduceGT,Int.reduceGE,Int.reduceBEq,Int.reduceBNe,Nat.reduceEqDiff,Nat.reduceLeDiff,Nat.reduceLT,hn])|(refine Zbo rfl (fun hb=>?_) (fun hb=>?_)<;>simp only[hb,go_sem,reduceIte,reduceCtorEq,Nat.reduceAdd,Nat.reduceBEq,Int.reduceLT,Int.reduceLE,Int.reduceGT,Int.reduceGE,Int.reduceBEq,Int.reduceBNe,Nat.reduceEqDiff,Nat.reduceLeDiff,Nat.reduceLT,hn]))
 refine Ztw l.length (fun i st=>∃ h',st=⟨[u,.int .i64 (Zds (RT.mkI (.cons (.int .i64) (.one (.sl (.one (.int .i64)))))) l m i).2,.undef,.undef,.undef,.int .i64 (i:Int)]++ZvZ 21,[],h'⟩∧Only (Zp7 ω hd p) h h'∧MS h' ω hd p (.cons (.int .i64) (.one (.sl (.one (.int .i64))))) (Zds (RT.mkI (.cons (.int .i64) (.one (.sl (.one (.int .i64)))))) l m i).1 u) ?_ ?_
 · refine⟨h,?_,Only.refl _ _,hM⟩
   simp only[ZjE,keep,Int.natCast_zero]
   rfl
 · rintro i st next hi ⟨h1,rfl,hO,hR⟩ hnx
   by_cases hlt:i<l.length
   · have hc:decide ((i:Int)<(l.length:Int))=true:=decide_eq_true (by omega)
     have hw:IntKind.i64.wrap ((i:Int)+1)=((i+1:Nat):Int):=by rw[ZA8 (by omega)];omega
     obtain⟨b,hub⟩:=hR.slice (by rw[Zfr];omega)
     rw[Zfr] at hub
     subst hub
     cases hL:Zds (RT.mkI (.cons (.int .i64) (.one (.sl (.one (.int .i64)))))) l m i with
     |mk L k0=>
     rw[hL] at hR
     obtain⟨hLl,hs,hx0⟩:=Zll hlt hL
     have hiL:i<L.length:=by omega
     have hwx:=ZwZ hok hlt
     rw[← hx0] at hwx
     have R0:=MS.frame hR hiL
     clear hx0
     generalize hx0:List.getD L i (RT.dflt (.cons (.int .i64) (.one (.sl (.one (.int .i64))))))=x0 at R0 hs hwx
     clear hx0
     have hx:=ZtB (b:=b) (w:=2) hlt (k:=.i64)
     simp only
     obtain⟨h2,s0,o0,R1⟩:=MS.st R0 hiL (off:=0) (by decide) (v:=(.int .i64 k0)) rfl rfl (y:=((k0,x0.2):RT.D (.cons (.int .i64) (.one (.sl (.one (.int .i64))))))) rfl hinj []
     replace s0:Zeb [] h1 1 (.ptr b (i*2)) (.int .i64 k0)=some (.undef,[],h2):=s0
     obtain⟨u1,s1,M1,f1⟩:=MS.sb R1 hiL (off:=1) (by decide) (r':=(.one (.int .i64))) (l':=x0.2) rfl
     replace s1:ZqU h2 none (.ptr b (i*2+1))=some u1:=s1
     have ok1:=(MS.ok1 M1).1
     repeat' (first|(simp only[go_sem,reduceIte,reduceCtorEq,Nat.reduceAdd,Nat.reduceBEq,Int.reduceLT,Int.reduceLE,Int.reduceGT,Int.reduceGE,Int.reduceBEq,Int.reduceBNe,Nat.reduceEqDiff,Nat.reduceLeDiff,Nat.reduceLT,hn,hc,hw,hx,s0,s1,ok1])|(refine ZdP rfl (fun hb=>?_) (fun hb=>?_)<;>simp only[hb,go_sem,reduceIte,reduceCtorEq,Nat.reduceAdd,Nat.reduceBEq,Int.reduceLT,Int.reduceLE,Int.reduceGT,Int.reduceGE,Int.reduceBEq,Int.reduceBNe,Nat.reduceEqDiff,Nat.reduceLeDiff,Nat.reduceLT,hn,hc,hw,hx,s0,s1,ok1])|(refine Zfc rfl (fun hb=>?_) (fun hb=>?_)<;>simp only[hb,go_sem,reduceIte,reduceCtorEq,Nat.reduceAdd,Nat.reduceBEq,Int.reduceLT,Int.reduceLE,Int.reduceGT,Int.reduceGE,Int.reduceBEq,Int.reduceBNe,Nat.reduceEqDiff,Nat.reduceLeDiff,Nat.reduceLT,hn,hc,hw,hx,s0,s1,ok1])|(refine Zbo rfl (fun hb=>?_) (fun hb=>?_)<;>simp only[hb,go_sem,reduceIte,reduceCtorEq,Nat.reduceAdd,Nat.reduceBEq,Int.reduceLT,Int.reduceLE,Int.reduceGT,Int.reduceGE,Int.reduceBEq,Int.reduceBNe,Nat.reduceEqDiff,Nat.reduceLeDiff,Nat.reduceLT,hn,hc,hw,hx,s0,s1,ok1]))
     refine ZHD (Zon h2 ω hd _ x0.2 u1 (IntKind.i64.wrap (k0+1)) _ hwx.2 hinj M1 fun h3 O1 N1=>?_)
     obtain⟨o1,R2⟩:=f1 h3 _ ((k0,(mkL (RT.mkI (.one (.int .i64))) x0.2 (IntKind.i64.wrap (k0+1))).1):RT.D (.cons (.int .i64) (.one (.sl (.one (.int .i64)))))) O1 N1 rfl
     repeat' (first|(simp only[go_sem,reduceIte,reduceCtorEq,Nat.reduceAdd,Nat.reduceBEq,Int.reduceLT,Int.reduceLE,Int.reduceGT,Int.reduceGE,Int.reduceBEq,Int.reduceBNe,Nat.reduceEqDiff,Nat.reduceLeDiff,Nat.reduceLT,hn,hc,hw,hx,s0,s1,ok1])|(refine ZdP rfl (fun hb=>?_) (fun hb=>?_)<;>simp only[hb,go_sem,reduceIte,reduceCtorEq,Nat.reduceAdd,Nat.reduceBEq,Int.reduceLT,Int.reduceLE,Int.reduceGT,Int.reduceGE,Int.reduceBEq,Int.reduceBNe,Nat.reduceEqDiff,Nat.reduceLeDiff,Nat.reduceLT,hn,hc,hw,hx,s0,s1,ok1])|(refine Zfc rfl (fun hb=>?_) (fun hb=>?_)<;>simp only[hb,go_sem,reduceIte,reduceCtorEq,Nat.reduceAdd,Nat.reduceBEq,Int.reduceLT,Int.reduceLE,Int.reduceGT,Int.reduceGE,Int.reduceBEq,Int.reduceBNe,Nat.reduceEqDiff,Nat.reduceLeDiff,Nat.reduceLT,hn,hc,hw,hx,s0,s1,ok1])|(refine Zbo rfl (fun hb=>?_) (fun hb=>?_)<;>simp only[hb,go_sem,reduceIte,reduceCtorEq,Nat.reduceAdd,Nat.reduceBEq,Int.reduceLT,Int.reduceLE,Int.reduceGT,Int.reduceGE,Int.reduceBEq,Int.reduceBNe,Nat.reduceEqDiff,Nat.reduceLeDiff,Nat.reduceLT,hn,hc,hw,hx,s0,s1,ok1]))
     exact hnx _ hlt ⟨h3,by rw[hs];rfl,(Only.trans (Only.trans hO o0) o1),by rw[hs];exact R2⟩
   · have hc:decide ((i:Int)<(l.length:Int))=false:=decide_eq_false (by omega)
     have hi':i=l.length:=by omega
     subst hi'
     repeat' (first|(simp only[go_sem,reduceIte,reduceCtorEq,Nat.reduceAdd,Nat.reduceBEq,Int.reduceLT,Int.reduceLE,Int.reduceGT,Int.reduceGE,Int.reduceBEq,Int.reduceBNe,Nat.reduceEqDiff,Nat.reduceLeDiff,Nat.reduceLT,hn,hc])|(refine ZdP rfl (fun hb=>?_) (fun hb=>?_)<;>simp only[hb,go_sem,reduceIte,reduceCtorEq,Nat.reduceAdd,Nat.reduceBEq,Int.reduceLT,Int.reduceLE,Int.reduceGT,Int.reduceGE,Int.reduceBEq,Int.reduceBNe,Nat.reduceEqDiff,Nat.reduceLeDiff,Nat.reduceLT,hn,hc])|(refine Zfc rfl (fun hb=>?_) (fun hb=>?_)<;>simp only[hb,go_sem,reduceIte,reduceCtorEq,Nat.reduceAdd,Nat.reduceBEq,Int.reduceLT,Int.reduceLE,Int.reduceGT,Int.reduceGE,Int.reduceBEq,Int.reduceBNe,Nat.reduceEqDiff,Nat.reduceLeDiff,Nat.reduceLT,hn,hc])|(refine Zbo rfl (fun hb=>?_) (fun hb=>?_)<;>simp only[hb,go_sem,reduceIte,reduceCtorEq,Nat.reduceAdd,Nat.reduceBEq,Int.reduceLT,Int.reduceLE,Int.reduceGT,Int.reduceGE,Int.reduceBEq,Int.reduceBNe,Nat.reduceEqDiff,Nat.reduceLeDiff,Nat.reduceLT,hn,hc]))
     have e:=Zhk (RT.mkI (.cons (.int .i64) (.one (.sl (.one (.int .i64)))))) l m
     rw[e] at hR ⊢
     exact hQ h1 hO hR
theorem Zl6:ZlQ Zbx (ZG9 (.cons (.int .i64) (.one (.sl (.one (.int .i64)))))).P:=SlC.sound Zmb
def Zgh:DMk:=⟨.one (.sl (.cons (.int .i64) (.one (.sl (.one (.int .i64)))))),false,ZbX,Zak,false⟩
theorem Zly:ZlQ Zbx (DMk.P Zgh):=by unfold Zgh;rw[ZhH,ZhI];exact Zl6
def Zl8:DCode:=
 (.seq [1,0] (.region [oi 0 4 0])
 (.seq [1] (.seq [5,1,0] (.region [oi 0 5 0])
 (.block 0 (.loop [0,1,5] 1 (.seq [5,1,0] (.seq [9,5,1,0] (.region [om 0 6 5,
 on 1 7 0,
 oa 2 8 (.len (.t 7)),
 oa 3 9 (.bin .lss (.t 6) (.t 8))])
  (.cond (.t 9) .skip (.exit 0)))
  (.seq [5,1,0] (.block 1 (.seq [5,1,0] (.seq [18,5,1,0] (.region [on 0 12 0,
 om 1 13 5,
 oa 2 14 (.indexA 2 (.t 12) (.t 13)),
 oa 3 15 (.fieldA 0 (.t 14)),
 oa 4 16 (.loadH none (.t 15)),
 om 5 17 1,
 oa 6 18 (.bin .neq (.t 16) (.t 17))])
  (.cond (.t 18) (.seq [4] (.region [oi 0 4 (-1)])
  .ret) .skip))
  (.seq [5,1,0] (.region [om 0 19 1,
 oa 1 20 (.bin .add (.t 19) (.c (.int .i64 1))),
 om 2 1 20])
  (.seq [5,1,0] (.region [on 0 21 0,
 om 1 22 5,
 oa 2 23 (.indexA 2 (.t 21) (.t 22)),
 oa 3 24 (.fieldA 1 (.t 23)),
 oa 4 25 (.loadH none (.t 24)),
 om 5 26 1,
 oc 6 27 ZdT ZeR Zkx [(.t 25),(.t 26)],
 om 7 1 27])
  (.seq [29,5,1,0] (.region [om 0 28 1,
 oa 1 29 (.bin .lss (.t 28) (.c (.int .i64 0)))])
  (.cond (.t 29) (.seq [4] (.region [oi 0 4 (-1)])
  .ret) .skip))))))
  (.region [om 0 10 5,
 oa 1 11 (.bin .add (.t 10) (.c (.int .i64 1))),
 om 2 5 11]))))))
  (.seq [4] (.region [om 0 30 1,
 om 1 4 30])
  .ret)))
def df_laws_heldReportS:DFun:=⟨2,31,0,true,[.tmp 4],Zl8⟩
@[irreducible] def Zbz:Zar:=Za5 df_laws_heldReportS.er.er
@[irreducible] def Zcq:ZfF:=ZaQ df_laws_heldReportS.er
theorem ZiL:Zbd Zbz Zcq:=by unfold Zbz Zcq;exact Zav (f:=df_laws_heldReportS.er) ⟨Zoy,trivial⟩
def ZeB:List HT:=[.one .frz (.sl (.cons (.int .i64) (.one (.sl (.one (.int .i64)))))),.one .frz (.int .i64)]
def ZeE:QT:=.one (.one .own (.int .i64))
@[irreducible] def ZaL(x:(List (Int×List (Int)))×Int):Int:=(shut fun x=>fnV df_laws_heldReportS ZeB ZeE x).1 x
@[irreducible] def ZbH(x:(List (Int×List (Int)))×Int):Prop:=(shut fun x=>ZhR df_laws_heldReportS ZeB ZeE x).1 x
def Zf9:ZhA:=ZbC ZeB ZeE ZbH ZaL
theorem Ziu:Zbp Zcq Zf9:=by unfold Zcq;exact Zaz (f:=df_laws_heldReportS) (hs:=ZeB) (q:=ZeE) ⟨Zoh,trivial⟩ (by kernel_rfl) (fun x=>by kernel_rfl) (fun x h=>by unfold ZbH at h;exact Eq.mp (congrFun (shut _).2 x) h) (fun x=>by unfold ZaL;exact(congrFun (shut _).2 x).symm)
def ZiF:DCode:=
 (.seq [1,0] (.region [oa 0 4 (.mv (.c (.bool false)))])
 (.seq [5,1,0] (.region [oi 0 5 1048576])
 (.seq [5,1,0] (.region [on 0 14 0,
 om 1 15 5,
 oc 2 16 Zek Zfp ZlI [(.t 14),(.t 15)],
 om 3 5 16])
  (.seq [5,1,0] (.seq [18,5,1,0] (.region [om 0 17 5,
 oa 1 18 (.bin .lss (.t 17) (.c (.int .i64 0)))])
  (.cond (.t 18) (.seq [4] (.region [oa 0 4 (.mv (.c (.bool true)))])
  .ret) .skip))
  (.seq [5,1,0] (.region [on 0 19 1,
 om 1 20 5,
 oc 2 21 Zeh Zfq Zl0 [(.t 19),(.t 20)],
 om 3 5 21])
  (.seq [1,0] (.seq [23,1,0] (.region [om 0 22 5,
 oa 1 23 (.bin .lss (.t 22) (.c (.int .i64 0)))])
  (.cond (.t 23) (.seq [4] (.region [oa 0 4 (.mv (.c (.bool true)))])
  .ret) .skip))
  (.seq [6,1,0] (.region [on 0 24 0,
 oc 1 25 Zbj ZcG Zfi [(.t 24)],
 on 2 26 1,
 oc 3 27 Zbk ZcL Zfh [(.t 26)],
 oc 4 28 Zcb ZcU Ziw [(.t 25),(.t 27)],
 on 5 6 28])
  (.seq [7,6,1,0] (.region [on 0 29 0,
 oc 1 30 Zbj ZcG Zfi [(.t 29)],
 om 2 7 30])
  (.seq [8,7,6,1,0] (.region [on 0 31 1,
 oc 1 32 Zbk ZcL Zfh [(.t 31)],
 om 2 8 32])
  (.seq [9,8,7,6,1,0] (.region [on 0 33 7,
 on 1 34 8,
 oc 2 35 Zbg Zb8 ZfI [(.t 33),(.t 34)],
 om 3 9 35])
  (.seq [9,8,7,6,1,0] (.seq [39,9,8,7,6,1,0] (.region [on 0 36 9,
 on 1 37 6,
 oc 2 38 Zbh Zcz ZfB [(.t 36),(.t 37)],
 oa 3 39 (.un .not (.t 38))])
  (.cond (.t 39) (.seq [4] (.region [oa 0 4 (.mv (.c (.bool false)))])
  .ret) .skip))
  (.seq [9,8,7,6,1,0] (.seq [44,9,8,7,6,1,0] (.region [on 0 40 7,
 on 1 41 0,
 oc 2 42 Zbj ZcG Zfi [(.t 41)],
 oc 3 43 Zen Zfj Zl1 [(.t 40),(.t 42)],
 oa 4 44 (.un .not (.t 43))])
  (.cond (.t 44) (.seq [4] (.region [oa 0 4 (.mv (.c (.bool false)))])
  .ret) .skip))
  (.seq [9,8,7,6,1,0] (.seq [49,9,8,7,6,1,0] (.region [on 0 45 8,
 on 1 46 1,
 oc 2 47 Zbk ZcL Zfh [(.t 46)],
 oc 3 48 Zeo Zfm ZlT [(.t 45),(.t 47)],
 oa 4 49 (.un .not (.t 48))])
  (.cond (.t 49) (.seq [4] (.region [oa 0 4 (.mv (.c (.bool false)))])
  .ret) .skip))
  (.seq [10,9,8,7,6,1,0] (.region [oi 0 10 1])
  (.seq [10,9,8,6,1,0] (.region [on 0 50 7,
 om 1 51 10,
 ⟨2,some 52,.mark Zb4 Zhu (.t 50) (.t 51),none,[]⟩,
 om 3 10 52])
  (.seq [10,9,6,1,0] (.region [on 0 53 8,
 om 1 54 10,
 ⟨2,some 55,.mark Zb5 ZhE (.t 53) (.t 54),none,[]⟩,
 om 3 10 55])
  (.seq [9,6,1,0] (.seq [63,9,6,1,0] (.region [om 0 56 10,
 oa 1 57 (.bin .lss (.t 56) (.c (.int .i64 0))),
 om 2 58 57,
 ⟨3,some 59,.a true (.mv (.t 9)) none,(some (58,false)),[]⟩,
 ⟨4,some 60,.a true (.mv (.t 6)) none,(some (58,false)),[]⟩,
 ⟨5,some 61,.call false Zbh Zcz ZfB [(.t 59),(.t 60)],(some (58,false)),[]⟩,
 og 6 62 (.un .not (.t 61)) 58 false,
 oa 7 63 (.pick (.t 58) (.c (.bool true)) (.t 62))])
  (.cond (.t 63) (.seq [4] (.region [oa 0 4 (.mv (.c (.bool false)))])
  .ret) .skip))
  (.seq [11,9,6,1,0] (.region [oi 0 11 1])
  (.seq [11,9,6,1,0] (.region [on 0 64 9,
 om 1 65 11,
 ⟨2,some 66,.mark Zbx Zgh (.t 64) (.t 65),none,[]⟩,
 om 3 11 66])
  (.seq [12,11,9,6,1,0] (.region [oi 0 12 1])
  (.seq [12,11,9,6,1,0] (.region [on 0 67 9,
 om 1 68 12,
 oc 2 69 Zbz Zcq Zf9 [(.t 67),(.t 68)],
 om 3 12 69])
  (.seq [12,11,9,6,1,0] (.seq [71,12,11,9,6,1,0] (.region [om 0 70 12,
 oa 1 71 (.bin .lss (.t 70) (.c (.int .i64 0)))])
  (.cond (.t 71) (.seq [4] (.region [oa 0 4 (.mv (.c (.bool false)))])
  .ret) .skip))
  (.seq [11,9,6,1,0] (.seq [74,11,9,6,1,0] (.region [om 0 72 12,
 om 1 73 11,
 oa 2 74 (.bin .neq (.t 72) (.t 73))])
  (.cond (.t 74) (.seq [4] (.region [oa 0 4 (.mv (.c (.bool false)))])
  .ret) .skip))
  (.seq [13,11,9,6] (.region [on 0 75 0,
 oc 1 76 Zbj ZcG Zfi [(.t 75)],
 on 2 77 1,
 oc 3 78 Zbk ZcL Zfh [(.t 77)],
 oc 4 79 Zbg Zb8 ZfI [(.t 76),(.t 78)],
 on 5 13 79])
  (.seq [11,9] (.seq [83,11,9] (.region [on 0 80 13,
 on 1 81 6,
 oc 2 82 Zbh Zcz ZfB [(.t 80),(.t 81)],
 oa 3 83 (.un .not (.t 82))])
  (.cond (.t 83) (.seq [4] (.region [oa 0 4 (.mv (.c (.bool false)))])
  .ret) .skip))
  (.seq [12,11,9] (.region [oi 0 12 1])
  (.seq [12,11] (.region [on 0 84 9,
 om 1 85 12,
 oc 2 86 Zbz Zcq Zf9 [(.t 84),(.t 85)],
 om 3 12 86])
  (.seq [12,11] (.seq [88,12,11] (.region [om 0 87 12,
 oa 1 88 (.bin .lss (.t 87) (.c (.int .i64 0)))])
  (.cond (.t 88) (.seq [4] (.region [oa 0 4 (.mv (.c (.bool false)))])
  .ret) .skip))
  (.seq [] (.seq [91] (.region [om 0 89 12,
 om 1 90 11,
 oa 2 91 (.bin .neq (.t 89) (.t 90))])
  (.cond (.t 91) (.seq [4] (.region [oa 0 4 (.mv (.c (.bool false)))])
  .ret) .skip))
  (.seq [4] (.region [oa 0 4 (.mv (.c (.bool true)))])
  .ret))))))))))))))))))))))))))))))
def df_laws_FnExactMacroReports:DFun:=⟨2,92,0,true,[.tmp 4],ZiF⟩
@[irreducible] def Zbr:Zar:=Za5 df_laws_FnExactMacroReports.er.er
@[irreducible] def Zc4:ZfF:=ZaQ df_laws_FnExactMacroReports.er
theorem Zin:Zbd Zbr Zc4:=by unfold Zbr Zc4;exact Zav (f:=df_laws_FnExactMacroReports.er) ⟨Zqj,ZpA,Zf8,ZfP,ZlA,Zf8,ZfP,ZhK,ZgH,Zf8,ZpJ,ZfP,Zqb,ZmX,ZmO,ZgH,Zly,ZiL,Zf8,ZfP,ZhK,ZgH,ZiL,trivial⟩
def Za2:List HT:=[.one .frz (.sl rI5),.one .frz (.sl rI3)]
def Zb6:QT:=.one (.one .own (.bool))
@[irreducible] def Zbq(x:(List (Int×Int×Int×Int×Int))×(List (Int×Int×Int))):Bool:=(shut fun x=>fnV df_laws_FnExactMacroReports Za2 Zb6 x).1 x
@[irreducible] def Zbe(x:(List (Int×Int×Int×Int×Int))×(List (Int×Int×Int))):Prop:=(shut fun x=>ZhR df_laws_FnExactMacroReports Za2 Zb6 x).1 x
theorem ZiP (x):Zbq x=fnV df_laws_FnExactMacroReports Za2 Zb6 x:=by unfold Zbq;exact congrFun (shut _).2 x
theorem ZiD (x):Zbe x=ZhR df_laws_FnExactMacroReports Za2 Zb6 x:=by unfold Zbe;exact congrFun (shut _).2 x
end
section
set_option maxRecDepth 100000
theorem Znn (x):ZaS x=(bAnd (bNot (iNe (lLen x.1) (lLen x.2))) (bNot (iLt (ZaV (fun(x0:Int)=>(bAnd (iLt x0 (lLen x.1)) (bNot (bNot (Zbf (((lGet x.1 (iNat x0) (0,[])).1,(lGet x.1 (iNat x0) (0,[])).2),(lGet x.2 (iNat x0) (0,[])).1,(lGet x.2 (iNat x0) (0,[])).2)))))) (fun(x0:Int)=>(iAdd .i64 x0 1)) 0) (lLen x.1)))):=by unfold ZaS;exact(congrFun (shut _).2 x).trans (by kernel_rfl)
theorem ZnH (x):ZbM x=(((iNe (lLen x.1) (lLen x.2))=true→True)∧((iNe (lLen x.1) (lLen x.2))=false→(LoopOk (fun(x0:Int)=>(bAnd (iLt x0 (lLen x.1)) (bNot (bNot (Zbf (((lGet x.1 (iNat x0) (0,[])).1,(lGet x.1 (iNat x0) (0,[])).2),(lGet x.2 (iNat x0) (0,[])).1,(lGet x.2 (iNat x0) (0,[])).2)))))) (fun(x0:Int)=>(iAdd .i64 x0 1)) (fun(x0:Int)=>(((iLt x0 (lLen x.1))=true→((((0:Int)≤x0)∧(x0<(((List.length x.1):Int))))∧(((iNat x0)<(List.length x.1))∧((((0:Int)≤x0)∧(x0<(((List.length x.2):Int))))∧(((iNat x0)<(List.length x.2))∧(Zcy (((lGet x.1 (iNat x0) (0,[])).1,(lGet x.1 (iNat x0) (0,[])).2),(lGet x.2 (iNat x0) (0,[])).1,(lGet x.2 (iNat x0) (0,[])).2)))))))∧((iLt x0 (lLen x.1))=false→True))) 0))):=by unfold ZbM;exact(congrFun (shut _).2 x).trans (by kernel_rfl)
theorem Zma (x):ZaL x=(bSel (iLt (ZaV (fun(x0:(Int×Int))=>(bAnd (iLt x0.2 (lLen x.1)) (bAnd (bNot (iNe (lGet x.1 (iNat x0.2) (0,[])).1 x0.1)) (bNot (iLt (ZaE ((lGet x.1 (iNat x0.2) (0,[])).2,(iAdd .i64 x0.1 1))) 0))))) (fun(x0:(Int×Int))=>((ZaE ((lGet x.1 (iNat x0.2) (0,[])).2,(iAdd .i64 x0.1 1))),(iAdd .i64 x0.2 1))) (x.2,0)).2 (lLen x.1)) (bSel (iNe (lGet x.1 (iNat (ZaV (fun(x0:(Int×Int))=>(bAnd (iLt x0.2 (lLen x.1)) (bAnd (bNot (iNe (lGet x.1 (iNat x0.2) (0,[])).1 x0.1)) (bNot (iLt (ZaE ((lGet x.1 (iNat x0.2) (0,[])).2,(iAdd .i64 x0.1 1))) 0))))) (fun(x0:(Int×Int))=>((ZaE ((lGet x.1 (iNat x0.2) (0,[])).2,(iAdd .i64 x0.1 1))),(iAdd .i64 x0.2 1))) (x.2,0)).2) (0,[])).1 (ZaV (fun(x0:(Int×Int))=>(bAnd (iLt x0.2 (lLen x.1)) (bAnd (bNot (iNe (lGet x.1 (iNat x0.2) (0,[])).1 x0.1)) (bNot (iLt (ZaE ((lGet x.1 (iNat x0.2) (0,[])).2,(iAdd .i64 x0.1 1))) 0))))) (fun(x0:(Int×Int))=>((ZaE ((lGet x.1 (iNat x0.2) (0,[])).2,(iAdd .i64 x0.1 1))),(iAdd .i64 x0.2 1))) (x.2,0)).1) (-1) (-1)) (ZaV (fun(x0:(Int×Int))=>(bAnd (iLt x0.2 (lLen x.1)) (bAnd (bNot (iNe (lGet x.1 (iNat x0.2) (0,[])).1 x0.1)) (bNot (iLt (ZaE ((lGet x.1 (iNat x0.2) (0,[])).2,(iAdd .i64 x0.1 1))) 0))))) (fun(x0:(Int×Int))=>((ZaE ((lGet x.1 (iNat x0.2) (0,[])).2,(iAdd .i64 x0.1 1))),(iAdd .i64 x0.2 1))) (x.2,0)).1):=by unfold ZaL;exact(congrFun (shut _).2 x).trans (by kernel_rfl)
theorem Zmf (x):ZbH x=(LoopOk (fun(x0:(Int×Int))=>(bAnd (iLt x0.2 (lLen x.1)) (bAnd (bNot (iNe (lGet x.1 (iNat x0.2) (0,[])).1 x0.1)) (bNot (iLt (ZaE ((lGet x.1 (iNat x0.2) (0,[])).2,(iAdd .i64 x0.1 1))) 0))))) (fun(x0:(Int×Int))=>((ZaE ((lGet x.1 (iNat x0.2) (0,[])).2,(iAdd .i64 x0.1 1))),(iAdd .i64 x0.2 1))) (fun(x0:(Int×Int))=>(((iLt x0.2 (lLen x.1))=true→((((0:Int)≤x0.2)∧(x0.2<(((List.length x.1):Int))))∧(((iNat x0.2)<(List.length x.1))∧(((iNe (lGet x.1 (iNat x0.2) (0,[])).1 x0.1)=true→True)∧((iNe (lGet x.1 (iNat x0.2) (0,[])).1 x0.1)=false→((((0:Int)≤x0.2)∧(x0.2<(((List.length x.1):Int))))∧(((iNat x0.2)<(List.length x.1))∧(Zcv ((lGet x.1 (iNat x0.2) (0,[])).2,(iAdd .i64 x0.1 1))))))))))∧((iLt x0.2 (lLen x.1))=false→True))) (x.2,0)):=by unfold ZbH;exact(congrFun (shut _).2 x).trans (by kernel_rfl)
theorem Zio (x):Zbq x=(bOr (iLt (ZaN (x.1,1048576)) 0) (bOr (iLt (Zbi (x.2,(ZaN (x.1,1048576)))) 0) (bAnd (bNot (bNot (ZaS ((Zad ((Zab x.1),(Zac x.2))),(Zao ((Zab x.1),(Zac x.2))))))) (bAnd (bNot (bNot (ZcK ((Zab x.1),(Zab x.1))))) (bAnd (bNot (bNot (ZcM ((Zac x.2),(Zac x.2))))) (bAnd (bNot (bOr (iLt (ZaW (Zac x.2) (ZaR (Zab x.1) 1).2).2 0) (bNot (ZaS ((Zad ((Zab x.1),(Zac x.2))),(Zao ((Zab x.1),(Zac x.2)))))))) (bAnd (bNot (iLt (ZaL ((Zak (Zad ((Zab x.1),(Zac x.2))) 1).1,1)) 0)) (bAnd (bNot (iNe (ZaL ((Zak (Zad ((Zab x.1),(Zac x.2))) 1).1,1)) (Zak (Zad ((Zab x.1),(Zac x.2))) 1).2)) (bAnd (bNot (bNot (ZaS ((Zad ((Zab x.1),(Zac x.2))),(Zao ((Zab x.1),(Zac x.2))))))) (bAnd (bNot (iLt (ZaL ((Zak (Zad ((Zab x.1),(Zac x.2))) 1).1,1)) 0)) (bNot (iNe (ZaL ((Zak (Zad ((Zab x.1),(Zac x.2))) 1).1,1)) (Zak (Zad ((Zab x.1),(Zac x.2))) 1).2)))))))))))):=by unfold Zbq;exact(congrFun (shut _).2 x).trans (by kernel_rfl)
theorem ZiB (x):Zbe x=((ZdY (x.1,1048576))∧(((iLt (ZaN (x.1,1048576)) 0)=true→True)∧((iLt (ZaN (x.1,1048576)) 0)=false→((ZdQ (x.2,(ZaN (x.1,1048576))))∧(((iLt (Zbi (x.2,(ZaN (x.1,1048576)))) 0)=true→True)∧((iLt (Zbi (x.2,(ZaN (x.1,1048576)))) 0)=false→((ZbT x.1)∧((ZbS x.2)∧((ZbW ((Zab x.1),(Zac x.2)))∧((ZbT x.1)∧((ZbS x.2)∧((Zbw ((Zab x.1),(Zac x.2)))∧((ZbM ((Zad ((Zab x.1),(Zac x.2))),(Zao ((Zab x.1),(Zac x.2)))))∧(((bNot (ZaS ((Zad ((Zab x.1),(Zac x.2))),(Zao ((Zab x.1),(Zac x.2))))))=true→True)∧((bNot (ZaS ((Zad ((Zab x.1),(Zac x.2))),(Zao ((Zab x.1),(Zac x.2))))))=false→((ZbT x.1)∧((ZdC ((Zab x.1),(Zab x.1)))∧(((bNot (ZcK ((Zab x.1),(Zab x.1))))=true→True)∧((bNot (ZcK ((Zab x.1),(Zab x.1))))=false→((ZbS x.2)∧((ZdN ((Zac x.2),(Zac x.2)))∧(((bNot (ZcM ((Zac x.2),(Zac x.2))))=true→True)∧((bNot (ZcM ((Zac x.2),(Zac x.2))))=false→((((List.length (Zab x.1))=(List.length (Zab x.1)))∧(DMk.ok (DMk.mk (RT.one (CT.sl (RT.cons (CT.int IntKind.i64) (RT.cons (CT.int IntKind.i64) (RT.cons (CT.int IntKind.i64) (RT.cons (CT.int IntKind.i64) (RT.one (CT.int IntKind.i64)))))))) false Zdo ZaR false) (Zab x.1)))∧((((List.length (Zac x.2))=(List.length (Zac x.2)))∧(DMk.ok (DMk.mk (RT.one (CT.sl (RT.cons (CT.int IntKind.i64) (RT.cons (CT.int IntKind.i64) (RT.one (CT.int IntKind.i64)))))) false Zdm ZaW false) (Zac x.2)))∧((((iLt (ZaW (Zac x.2) (ZaR (Zab x.1) 1).2).2 0)=true→True)∧((iLt (ZaW (Zac x.2) (ZaR (Zab x.1) 1).2).2 0)=false→(ZbM ((Zad ((Zab x.1),(Zac x.2))),(Zao ((Zab x.1),(Zac x.2)))))))∧(((bOr (iLt (ZaW (Zac x.2) (ZaR (Zab x.1) 1).2).2 0) (bNot (ZaS ((Zad ((Zab x.1),(Zac x.2))),(Zao ((Zab x.1),(Zac x.2)))))))=true→True)∧((bOr (iLt (ZaW (Zac x.2) (ZaR (Zab x.1) 1).2).2 0) (bNot (ZaS ((Zad ((Zab x.1),(Zac x.2))),(Zao ((Zab x.1),(Zac x.2)))))))=false→((((List.length (Zad ((Zab x.1),(Zac x.2))))=(List.length (Zad ((Zab x.1),(Zac x.2)))))∧(DMk.ok (DMk.mk (RT.one (CT.sl (RT.cons (CT.int IntKind.i64) (RT.one (CT.sl (RT.one (CT.int IntKind.i64))))))) false ZbX Zak false) (Zad ((Zab x.1),(Zac x.2)))))∧((ZbH ((Zak (Zad ((Zab x.1),(Zac x.2))) 1).1,1))∧(((iLt (ZaL ((Zak (Zad ((Zab x.1),(Zac x.2))) 1).1,1)) 0)=true→True)∧((iLt (ZaL ((Zak (Zad ((Zab x.1),(Zac x.2))) 1).1,1)) 0)=false→(((iNe (ZaL ((Zak (Zad ((Zab x.1),(Zac x.2))) 1).1,1)) (Zak (Zad ((Zab x.1),(Zac x.2))) 1).2)=true→True)∧((iNe (ZaL ((Zak (Zad ((Zab x.1),(Zac x.2))) 1).1,1)) (Zak (Zad ((Zab x.1),(Zac x.2))) 1).2)=false→((ZbT x.1)∧((ZbS x.2)∧((Zbw ((Zab x.1),(Zac x.2)))∧((ZbM ((Zad ((Zab x.1),(Zac x.2))),(Zao ((Zab x.1),(Zac x.2)))))∧(((bNot (ZaS ((Zad ((Zab x.1),(Zac x.2))),(Zao ((Zab x.1),(Zac x.2))))))=true→True)∧((bNot (ZaS ((Zad ((Zab x.1),(Zac x.2))),(Zao ((Zab x.1),(Zac x.2))))))=false→(ZbH ((Zak (Zad ((Zab x.1),(Zac x.2))) 1).1,1)))))))))))))))))))))))))))))))))))))))))):=by unfold Zbe;exact(congrFun (shut _).2 x).trans (by kernel_rfl)
end
section
set_option maxRecDepth 20000
def Zm9(x:List (Int×List (Int))):Prop:=x.length≤1048576∧∀ a∈x,Zqg a
theorem Zx1(a b:List (Int×List (Int)))(h:Zm9 a):ZbM (a,b)∧(ZaS (a,b)=true↔a=b):=by
 rw[ZnH,Znn]
 obtain⟨h1,h2⟩:=h
 have hY:∀ i:Nat,i<a.length→Zcy (((lGet a i (0,[])).1,(lGet a i (0,[])).2),((lGet b i (0,[])).1,(lGet b i (0,[])).2))∧(Zbf (((lGet a i (0,[])).1,(lGet a i (0,[])).2),((lGet b i (0,[])).1,(lGet b i (0,[])).2))=true↔a.getD i (0,[])=b.getD i (0,[])):=fun i hi=>by
  have:=ZAY (a.getD i (0,[])) (b.getD i (0,[])) (h2 _ (ZgX a i (0,[]) hi))
  rw[ZbJ,ZbJ];exact this
 by_cases hl:a.length=b.length
 · refine⟨⟨fun _=>trivial,fun _=>ZBS a b (0,[]) (fun i=>bNot (Zbf (((lGet a i (0,[])).1,(lGet a i (0,[])).2),((lGet b i (0,[])).1,(lGet b i (0,[])).2)))) hl (fun i hi=>by simp only[ZaC,Bool.not_eq_false',(hY i hi).2]) (by omega) (fun i hi=>by simp only[ZaI,ZaA,Zan,ZaK,ZaC,Int.toNat_natCast,Int.ofNat_lt]) (fun i hi=>rfl) (fun i hi=>?_)⟩,?_⟩
   · simp only[ZaA,Zan,ZaK,decide_eq_true_eq,Int.toNat_natCast]
     exact⟨fun hh=>⟨by omega,by omega,by omega,by omega,(hY i (by omega)).1⟩,fun _=>trivial⟩
   · have hv:=ZHa (c:=fun i:Int=>bAnd (iLt i (lLen a)) (bNot ((fun i=>bNot (Zbf (((lGet a i (0,[])).1,(lGet a i (0,[])).2),((lGet b i (0,[])).1,(lGet b i (0,[])).2)))) i.toNat))) (f:=fun i=>iAdd .i64 i 1) a b (0,[]) (fun i=>bNot (Zbf (((lGet a i (0,[])).1,(lGet a i (0,[])).2),((lGet b i (0,[])).1,(lGet b i (0,[])).2)))) hl (fun i hi=>by simp only[ZaC,Bool.not_eq_false',(hY i hi).2]) (by omega) (fun i hi=>by simp only[ZaI,ZaA,Zan,ZaC,Int.toNat_natCast,Int.ofNat_lt]) (fun i hi=>rfl)
     have e1:bNot (iNe (lLen a) (lLen b))=true:=by rw[ZaC,Zdz,Zan,Zan,hl];simp
     rw[e1,ZaI true,Bool.true_and,ZaC (iLt _ (lLen a)),ZaA _ (lLen a)]
     simp only[← ZaK,Zan] at hv ⊢
     simp only[Bool.not_eq_true',decide_eq_false_iff_not]
     rw[hv];simp
 · have e1:bNot (iNe (lLen a) (lLen b))=false:=by rw[ZaC,Zdz,Zan,Zan];simp;omega
   refine⟨⟨fun _=>trivial,fun h=>?_⟩,?_⟩
   · rw[ZaC] at e1;rw[h] at e1;cases e1
   · rw[e1,ZaI,Bool.false_and];constructor
     · intro h;cases h
     · intro e;subst e;exact absurd rfl hl
def ZcP(a:Int×List (Int))(k:Int):(Int×List (Int))×Int:=((k,(ZaX a.2 (IntKind.i64.wrap (k+1))).1),(ZaX a.2 (IntKind.i64.wrap (k+1))).2)
theorem ZxK(x:List (Int×List (Int)))(h:Zm9 x)(m:Int)(h0:0≤m)(h1:m+1099512676352≤2305843009213693952):ZbX x∧(m≤(Zak x m).2∧(Zak x m).2≤m+1099512676352)∧ZbH ((Zak x m).1,m)∧ZaL ((Zak x m).1,m)=(Zak x m).2:=by
 have hl:x.length≤1048576:=h.1
 have hU:UpF ZcP x 1048577:=by
  intro a ha k k0 k1
  have e0:IntKind.i64.wrap (k+1)=k+1:=ZoH (by omega) (by omega)
  obtain⟨_,⟨p1,q1⟩,y1,z1⟩:=ZAJ a.2 (h.2 a ha).1 (k+1) (by omega) (by omega)
  have t1:¬ (ZaX a.2 (k+1)).2<0:=by omega
  have ee:(ZcP a k).2=(ZaX a.2 (k+1)).2:=by simp only[ZcP,e0]
  rw[ee]
  omega
 have hB:x.length*1048577≤1099512676352:=ZsM hl (by decide)
 have up:=ZwA (m:=m) hU h0 (by omega)
 have hmg:Zak x m=mkL ZcP x m:=by unfold ZcP;rw[ZhI,Zjw];rfl
 rw[hmg]
 have hL:=Zkw ZcP x m
 have hg:∀ i,i<x.length→(mkL ZcP x m).1.getD i (0,[])=(ZcP (x.getD i (0,[])) (Zds ZcP x m i).2).1:=fun i hi=>ZwH _ _ _ hi _
 have hok:ZbX x:=by rw[ZhH];exact⟨Nat.le_trans h.1 (by decide),fun a ha=>⟨trivial,⟨Nat.le_trans (h.2 a ha).1 (by decide),fun a ha=>trivial⟩⟩⟩
 rw[Zmf,Zma]
 dsimp only
 generalize (mkL ZcP x m).1=L at hL hg ⊢
 have key:LoopOk (fun(x0:(Int×Int))=>(bAnd (iLt x0.2 (lLen L)) (bAnd (bNot (iNe (lGet L (iNat x0.2) (0,[])).1 x0.1)) (bNot (iLt (ZaE ((lGet L (iNat x0.2) (0,[])).2,(iAdd .i64 x0.1 1))) 0))))) (fun(x0:(Int×Int))=>((ZaE ((lGet L (iNat x0.2) (0,[])).2,(iAdd .i64 x0.1 1))),(iAdd .i64 x0.2 1))) (fun(x0:(Int×Int))=>(((iLt x0.2 (lLen L))=true→((((0:Int)≤x0.2)∧(x0.2<(((List.length L):Int))))∧(((iNat x0.2)<(List.length L))∧(((iNe (lGet L (iNat x0.2) (0,[])).1 x0.1)=true→True)∧((iNe (lGet L (iNat x0.2) (0,[])).1 x0.1)=false→((((0:Int)≤x0.2)∧(x0.2<(((List.length L):Int))))∧(((iNat x0.2)<(List.length L))∧(Zcv ((lGet L (iNat x0.2) (0,[])).2,(iAdd .i64 x0.1 1))))))))))∧((iLt x0.2 (lLen L))=false→True))) (m,0)∧ZaV (fun(x0:(Int×Int))=>(bAnd (iLt x0.2 (lLen L)) (bAnd (bNot (iNe (lGet L (iNat x0.2) (0,[])).1 x0.1)) (bNot (iLt (ZaE ((lGet L (iNat x0.2) (0,[])).2,(iAdd .i64 x0.1 1))) 0))))) (fun(x0:(Int×Int))=>((ZaE ((lGet L (iNat x0.2) (0,[])).2,(iAdd .i64 x0.1 1))),(iAdd .i64 x0.2 1))) (m,0)=((mkL ZcP x m).2,(x.length:Int)):=by
  refine Zt7 hl (0,[]) (fun i hi=>?_) ?_
  · obtain⟨b1,b2⟩:=Ztu (m:=m) hU h0 (by omega) (0,[]) i (by omega)
    have bm:i*1048577+1048577≤x.length*1048577:=ZwI hi
    have g:=hg i hi
    have hlt:(i:Int)<(L.length:Int):=by omega
    have hlN:i<L.length:=by omega
    have ha:=ZgX x i (0,[]) hi
    generalize (Zds ZcP x m i).2=k at b1 b2 g ⊢
    generalize x.getD i (0,[])=a at g ha ⊢
    have e0:IntKind.i64.wrap (k+1)=k+1:=ZoH (by omega) (by omega)
    obtain⟨_,⟨p1,q1⟩,y1,z1⟩:=ZAJ a.2 (h.2 a ha).1 (k+1) (by omega) (by omega)
    have t1:¬ (ZaX a.2 (k+1)).2<0:=by omega
    simp only[ZbJ,ZaK,Zan,Int.toNat_natCast,ZwQ,Zt4,Zdz,ZaA,Zff,Zxd,ZaI,ZaC,Zjj,g,ZcP,e0,y1,z1,t1]
    simp[hlt,hlN,y1,z1,t1]
  · simp[ZaA,Zan,hL,ZaI]
 refine⟨hok,⟨up.1,by omega⟩,key.1,?_⟩
 simp only[key.2]
 simp[Zep,ZaA,Zan,hL]
end
section
set_option maxRecDepth 20000
theorem ZAu(x:HdX)(h:Zpa x):Zdo x∧1≤(ZaR x 1).2∧(ZaR x 1).2≤5242881:=by
 have hl:x.length≤1048576:=h.1
 let mi:(Int×Int×Int×Int×Int)→Int→(Int×Int×Int×Int×Int)×Int:=fun a k=>((k,(IntKind.i64.wrap (k+1)),(IntKind.i64.wrap ((IntKind.i64.wrap (k+1))+1)),(IntKind.i64.wrap ((IntKind.i64.wrap ((IntKind.i64.wrap (k+1))+1))+1)),(IntKind.i64.wrap ((IntKind.i64.wrap ((IntKind.i64.wrap ((IntKind.i64.wrap (k+1))+1))+1))+1))),(IntKind.i64.wrap ((IntKind.i64.wrap ((IntKind.i64.wrap ((IntKind.i64.wrap ((IntKind.i64.wrap (k+1))+1))+1))+1))+1)))
 have hU:UpF mi x 5:=by
  intro a ha k k0 k1
  have e0:IntKind.i64.wrap (k+1)=k+1:=ZoH (by omega) (by omega)
  have e1:IntKind.i64.wrap ((k+1)+1)=(k+1)+1:=ZoH (by omega) (by omega)
  have e2:IntKind.i64.wrap (((k+1)+1)+1)=((k+1)+1)+1:=ZoH (by omega) (by omega)
  have e3:IntKind.i64.wrap ((((k+1)+1)+1)+1)=(((k+1)+1)+1)+1:=ZoH (by omega) (by omega)
  have e4:IntKind.i64.wrap (((((k+1)+1)+1)+1)+1)=((((k+1)+1)+1)+1)+1:=ZoH (by omega) (by omega)
  have ee:(mi a k).2=(((((k+1)+1)+1)+1)+1):=by simp only[mi,e0,e1,e2,e3,e4]
  rw[ee]
  omega
 have hB:x.length*5≤5242880:=ZsM hl (by decide)
 have up:=ZwA (m:=1) hU (by omega) (by omega)
 have hmg:ZaR x 1=mkL mi x 1:=by rw[Zi3];rfl
 rw[hmg]
 exact⟨by rw[Zi5];exact⟨Nat.le_trans h.1 (by decide),fun a ha=>⟨trivial,trivial,trivial,trivial,trivial⟩⟩,by omega,by omega⟩
theorem ZyP(x:List (Int×Int×Int))(h:ZoT x)(k0:Int)(g0:1≤k0)(g1:k0≤5242881):Zdm x∧0≤(ZaW x k0).2:=by
 have hl:x.length≤1048576:=h.1
 let mi:(Int×Int×Int)→Int→(Int×Int×Int)×Int:=fun a k=>((k,(IntKind.i64.wrap (k+1)),(IntKind.i64.wrap ((IntKind.i64.wrap (k+1))+1))),(IntKind.i64.wrap ((IntKind.i64.wrap ((IntKind.i64.wrap (k+1))+1))+1)))
 have hU:UpF mi x 3:=by
  intro a ha k k0 k1
  have e0:IntKind.i64.wrap (k+1)=k+1:=ZoH (by omega) (by omega)
  have e1:IntKind.i64.wrap ((k+1)+1)=(k+1)+1:=ZoH (by omega) (by omega)
  have e2:IntKind.i64.wrap (((k+1)+1)+1)=((k+1)+1)+1:=ZoH (by omega) (by omega)
  have ee:(mi a k).2=(((k+1)+1)+1):=by simp only[mi,e0,e1,e2]
  rw[ee]
  omega
 have hB:x.length*3≤3145728:=ZsM hl (by decide)
 have up:=ZwA (m:=k0) hU (by omega) (by omega)
 have hmg:ZaW x k0=mkL mi x k0:=by rw[ZiY];rfl
 rw[hmg]
 exact⟨by rw[Zi8];exact⟨Nat.le_trans h.1 (by decide),fun a ha=>⟨trivial,trivial,trivial⟩⟩,by omega⟩
theorem Zjl(x:HdX×List (Int×Int×Int))(hw:TuX.wf Za2 x):Zbe x∧Zbq x=true:=by
 obtain⟨l,x⟩:=x
 rw[ZiB,Zio]
 obtain⟨k1,k2⟩:=ZCN l ⟨hw.1.1,fun a _=>by simp[ZBu,Zud]⟩ 1048576 (by omega) (by omega)
 rcases k2 with k2|⟨k2,k4,k3⟩
 · have e:iLt (ZaN (l,1048576)) 0=true:=by rw[ZaA];simpa using k2
   simp only[e];simp[ZhG,k1]
 · have e:iLt (ZaN (l,1048576)) 0=false:=by rw[ZaA];simpa using k2
   obtain⟨j1,j2⟩:=ZDb x ⟨hw.2.1,fun a _=>by simp[Zzt]⟩ _ k2 k4
   rcases j2 with j2|⟨j2,_,j3⟩
   · have e2:iLt (Zbi (x,ZaN (l,1048576))) 0=true:=by rw[ZaA];simpa using j2
     simp only[e,e2];simp[ZhG,k1,j1]
   · have e2:iLt (Zbi (x,ZaN (l,1048576))) 0=false:=by rw[ZaA];simpa using j2
     obtain⟨t1,t2⟩:=ZCH l k3
     obtain⟨u1,u2⟩:=ZB0 x j3
     obtain⟨r1,r2,r3,r4⟩:=ZoE l x k3.1 j3.1
     have r4:Zm9 (Zao (l,x)):=⟨r4.1,fun r hr=>⟨r4.2 r hr,trivial⟩⟩
     obtain⟨q1,q2⟩:=ZCh l l k3
     have q2:=q2.2 rfl
     obtain⟨p1,p2⟩:=ZC2 x x j3
     have p2:=p2.2 rfl
     obtain⟨b1,b2⟩:=Zx1 _ (Zao (l,x)) r4
     have b2:=b2.2 rfl
     obtain⟨m1,m2,m3⟩:=ZAu l k3
     obtain⟨l1,l2⟩:=ZyP x j3 _ m2 m3
     obtain⟨n1,⟨n2,n3⟩,n4,n5⟩:=ZxK _ r4 1 (by omega) (by omega)
     have c1:iLt (ZaW x (ZaR l 1).2).2 0=false:=by rw[ZaA];simp;omega
     have c2:iLt (Zak (Zao (l,x)) 1).2 0=false:=by rw[ZaA];simp;omega
     simp only[e,e2,t2,u2,r3,k1,j1,t1,u1,r1,r2,q1,q2,p1,p2,b1,b2,m1,l1,n1,n4,n5,c1,c2]
     simp[ZhG,ZaI,ZaC,Zjj,Zdz]
end
end
end Go.Ag
