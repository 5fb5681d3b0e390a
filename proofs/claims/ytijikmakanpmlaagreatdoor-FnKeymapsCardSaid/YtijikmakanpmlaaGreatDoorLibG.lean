/- Part 7 of what FnKeymaps needs. No conditions. -/
import Derived.Test.YtijikmakanpmlaaGreatDoorLibF
namespace Go.Ag
set_option linter.unusedSimpArgs false
set_option linter.unusedVariables false
noncomputable section
section
set_option maxRecDepth 20000
abbrev Gp:=Int×Int×Int×Int
theorem PJ(k c m n:Int)(h:B1 (k,c,m,n)=true) :
 ((k=0∨k=1∨k=10)∧c=0∧m=0∧n=0)∨(k=2∧n=0∧0≤c∧c≤56∧0≤m∧m≤15∧(c≠0∨m≠0))∨((k=3∨k=4)∧c=0∧m=0∧1≤n∧n≤3)∨((k=5∨k=9)∧c=0∧m=0∧0≤n∧n≤3) ∨
 (k=6∧n=0∧1≤c∧c≤56∧1≤m∧m≤15)∨(k=7∧m=0∧1≤c∧c≤56∧1≤n∧n≤3)∨(k=8∧c=0∧n=0∧1≤m∧m≤15):=by
 obtain⟨hk,_⟩:=Tt k c m n h
 rw[B1] at h
 simp only[Bt,AQ,Bp,Ay,Cy,Cq,CB] at h
 rcases (show k=0∨k=1∨k=2∨k=3∨k=4∨k=5∨k=6∨k=7∨k=8∨k=9∨k=10 by omega) with rfl|rfl|rfl|rfl|rfl|rfl|rfl|rfl|rfl|rfl|rfl<;>simp at h
 all_goals first|omega|(obtain⟨h1,h2⟩:=h;split at h2<;>omega)
theorem SN(p t:List UInt8)(h:(p++t).length≤1048576):Lg (p++t,p)∧EI (p++t,p)=(t,true):=by
 rw[CA] at h
 have e1:K8 (p++t,p)=true:=by
  rw[Zs,Cq,Aq,Aq,Ce,GD,Ar,Ay];simp;omega
 have o1:OI (p++t,p):=by
  rw[Zp,Cq,Aq,Aq,Ar];simp
 rw[Zz,ZH,Zq,Zr,e1,AD,Aq,Ar,Ms,GD,E6,AY];refine⟨⟨o1,fun h=>(by cases h),fun _=>⟨by omega,by simp,AO _⟩⟩,?_⟩;simp only[Ba];rw[List.drop_left,KE (by simp)]
theorem V4(s p:List UInt8)(h:¬ p <+: s):Lg (s,p)∧EI (s,p)=(s,false):=by
 have e1:K8 (s,p)=false:=by
  rw[Zs,Cq,Aq,Aq,Ce,GD,Ar,Ay,HD,Br,Ib];simp only[Ba,Od,Nat.sub_zero];by_cases hl:p.length≤s.length
  · right;intro e;exact h (e▸List.take_prefix _ _)
  · left;omega
 have o1:OI (s,p):=by
  rw[Zp,Cq,Aq,Aq,Ar];simp only[AA,Br,Ba];exact⟨fun h=>⟨by omega,by omega,by omega⟩,fun _=>trivial⟩
 rw[Zz,ZH,Zq,Zr,e1,AD,Bool.not_false,Bg];exact⟨⟨o1,fun _=>trivial,fun h=>(by cases h)⟩,rfl⟩
theorem bE(s p:List UInt8)(h:s.length≤1048576):Lg (s,p):=by
 by_cases hp:p <+: s
 · obtain⟨t,rfl⟩:=hp;exact(SN p t h).1
 · exact(V4 s p hp).1
theorem iG(s:List UInt8)(b:UInt8)(h:s.length≤1048576):Lz (s,[b]):=by
 rcases fv s b with h1|⟨x,y,rfl,h2⟩
 · exact(TT s b h1).1
 · exact(Yf x y b h2 h).1
def wd(i:Nat):List UInt8:=([[109,111,58],[116,103,58],[116,111,58],[109,97,99,114,111,58]]:List (List UInt8)).getD i []
theorem Ue(i:Nat)(h:i<4):Pj (lGet [3,4,5,9] i 0)∧Hf (lGet [3,4,5,9] i 0)=wd i:=by
 rw[bd,aS,A5];rcases (show i=0∨i=1∨i=2∨i=3 by omega) with rfl|rfl|rfl|rfl<;>simp only[AQ,Cy]<;>exact⟨by simp,rfl⟩
theorem Ww(s:List UInt8)(h:s.length≤1048576):LoopOk (FI s) Gu (Rr s) 0 ∧
 ∃ k:Nat,k≤4∧Am (FI s) Gu 0=(k:Int)∧(∀ j,j<k→¬ wd j <+: s)∧(k<4→wd k <+: s):=by
 have key:=Jr (c:=FI s) (f:=Gu) (p:=Rr s)
  (fun st=>∃ k:Nat,st=(k:Int)∧k≤4∧∀ j,j<k→¬ wd j <+: s) (fun st=>4-st.toNat) (fun st hI=>?_) (x0:=0) ⟨0,rfl,by decide,fun j hj=>absurd hj (by omega)⟩
 · obtain⟨k1,⟨k,e,h1,h2⟩,k2⟩:=key
   refine⟨k1,k,h1,e,h2,fun hk=>?_⟩;rw[e] at k2;simp only[FI,Ay,AD,Ap,Aq,Ar,Ba] at k2;rw[(Ue k hk).2] at k2;apply Classical.byContradiction;intro hn;rw[(V4 s _ hn).2] at k2;simp at k2;omega
 · obtain⟨k,rfl,h1,h2⟩:=hI
   simp only[FI,Gu,Rr,Ay,AD,Ap,Aq,Ar,Ba];have hl:(([3,4,5,9]:List Int).length:Int)=4:=rfl;have hl':([3,4,5,9]:List Int).length=4:=rfl;rw[hl];refine⟨⟨fun hk=>?_,fun _=>trivial⟩,fun hc=>?_⟩
   · have hk:k<4:=by simp only[AA] at hk;omega
     obtain⟨w1,w2⟩:=Ue k hk;rw[w2];exact⟨⟨by omega,by omega⟩,by omega,w1,bE _ _ h,fun _=>(V0 _).1,fun _=>trivial⟩
   · rw[Ah,AA] at hc;obtain⟨hk,hc⟩:=hc
     have hk:k<4:=by omega
     rw[Be (by unfold Ax;omega)];refine⟨⟨k+1,by omega,by omega,fun j hj=>?_⟩,by omega⟩;by_cases hjk:j<k
     · exact h2 j hjk
     · have:j=k:=by omega
       subst this;rintro⟨t,rfl⟩;rw[(Ue j hk).2,(SN _ t h).2] at hc;cases hc
theorem tL(s:List UInt8)(h:s.length≤1048576):RB s:=by
 rw[kf]
 have pm:∀ x,Lj x:=fun x=>(Pq x).2.1
 have co:∀ x,Ke x:=fun x=>(PE x).2.1
 have pi:∀ x,Ln x:=fun x=>(V0 x).1
 exact⟨fun _=>trivial,fun _=>⟨fun _=>trivial,fun _=>⟨fun _=>trivial,fun _=>⟨(Ww s h).1,fun _=>trivial,fun _=>⟨bE _ _ h,fun _=>pm _,fun _=>⟨iG _ _ h,
  fun _=>⟨pi _,fun _=>co _,fun _=>⟨pm _,co _⟩⟩,fun _=>⟨iG _ _ h,fun _=>⟨pm _,co _⟩,fun _=>co _⟩⟩⟩⟩⟩⟩⟩
theorem nA(s:List UInt8)(h:s.length≤1048576):MO s:=by
 rw[kr];exact⟨tL s h,MQ _,fun _=>trivial,fun _=>(HS _).2.1⟩
def JP:List UInt8:=[110,111,110,101]
def HF:List UInt8:=[112,97,115,115]
def Ga:List UInt8:=[99,97,112,115]
theorem TP(i:Nat)(h:i<4):(58:UInt8)∈wd i:=by
 rcases (show i=0∨i=1∨i=2∨i=3 by omega) with rfl|rfl|rfl|rfl<;>decide
theorem dX(s:List UInt8)(h:s.length≤1048576)(hc:∀ j,j<4→¬ wd j <+: s):Am (FI s) Gu 0=4:=by
 obtain⟨_,k,k1,k2,_,k4⟩:=Ww s h;rw[k2];rcases Bq k 4 with hk|hk
 · exact absurd (k4 hk) (hc k hk)
 · have:k=4:=by omega
   subst this;rfl
theorem rC(s:List UInt8)(h:s.length≤1048576)(i:Nat)(hi:i<4)(h1:wd i <+: s)(h2:∀ j,j<i→¬ wd j <+: s):Am (FI s) Gu 0=(i:Int):=by
 obtain⟨_,k,k1,k2,k3,k4⟩:=Ww s h;rw[k2]
 have:k=i:=by
  rcases Nat.lt_trichotomy k i with hk|hk|hk
  · exact absurd (k4 (by omega)) (h2 k hk)
  · exact hk
  · exact absurd h1 (k3 i hk)
 rw[this]
theorem dW{s p:List UInt8}{b:UInt8}(h1:b∈p)(h2:b ∉ s):¬ p <+: s:=fun h=>h2 (h.subset h1)
theorem Ch{a b:List UInt8}(h:a≠b):sEq a b=false:=by rw[Ce];exact Ib.2 h
theorem Wo(s:List UInt8)(h:s.length≤1048576)(h58:(58:UInt8) ∉ s)(n1:s≠JP)(n2:s≠HF)(n3:s≠Ga) :
 Dt s=(bSel (B0 (s,[(47:UInt8)])).2.2 (bSel (GB (B0 (s,[(47:UInt8)])).1).2 (7,(Hg (B0 (s,[(47:UInt8)])).2.1),0,(GB (B0 (s,[(47:UInt8)])).1).1) (6,(Hg (B0 (s,[(47:UInt8)])).2.1),(J4 (B0 (s,[(47:UInt8)])).1),0)) (bSel (B0 (s,[(45:UInt8)])).2.2 (2,(Hg (B0 (s,[(45:UInt8)])).2.1),(J4 (B0 (s,[(45:UInt8)])).1),0) (2,(Hg s),0,0))):=by
 have e1:sEq s [(110:UInt8),111,110,101]=false:=Ch n1
 have e2:sEq s [(112:UInt8),97,115,115]=false:=Ch n2
 have e3:sEq s [(99:UInt8),97,112,115]=false:=Ch n3
 have e4:=dX s h (fun j hj=>dW (TP j hj) h58)
 have e5:(EI (s,[(111:UInt8),110,99,101,58])).2=false:=by rw[(V4 s _ (dW (b:=58) (by decide) h58)).2]
 have e6:iLt 4 (lLen [(3:Int),4,5,9])=false:=by rw[Ap,Aq];rfl
 rw[MP,e1,e2,e3,e4,e5,e6]
 simp only[AY]
theorem Cr{s t:List UInt8}{b:UInt8}(h1:b∈s)(h2:b ∉ t):s≠t:=fun e=>h2 (e▸h1)
theorem cd(x y:List UInt8)(h:(x++47::y).length≤1048576)(h58:(58:UInt8) ∉ x++47::y)(h47:(47:UInt8) ∉ x) :
 Dt (x++47::y)=bSel (BW x).2 (7,Ct y,0,(BW x).1) (6,Ct y,D6 x,0):=by
 have hm:(47:UInt8)∈x++47::y:=by simp
 rw[Wo _ h h58 (Cr hm (by decide)) (Cr hm (by decide)) (Cr hm (by decide)),(Yf x y 47 h47 h).2,Bg]
 simp only[(bF x).2.2,(PE y).2.2,(Pq x).2.2]
theorem qe(x y:List UInt8)(h:(x++45::y).length≤1048576)(h58:(58:UInt8) ∉ x++45::y)(h47:(47:UInt8) ∉ x++45::y)(h45:(45:UInt8) ∉ x) :
 Dt (x++45::y)=(2,Ct y,D6 x,0):=by
 have hm:(45:UInt8)∈x++45::y:=by simp
 rw[Wo _ h h58 (Cr hm (by decide)) (Cr hm (by decide)) (Cr hm (by decide)),(TT _ 47 h47).2,AY,(Yf x y 45 h45 h).2,Bg]
 simp only[(PE y).2.2,(Pq x).2.2]
theorem pk(s:List UInt8)(h:s.length≤1048576)(h58:(58:UInt8) ∉ s)(h47:(47:UInt8) ∉ s)(h45:(45:UInt8) ∉ s)(n1:s≠JP)(n2:s≠HF)(n3:s≠Ga) :
 Dt s=(2,Ct s,0,0):=by
 rw[Wo s h h58 n1 n2 n3,(TT _ 47 h47).2,AY,(TT _ 45 h45).2,AY,(PE s).2.2]
theorem qd(i:Nat)(hi:i<4)(t:List UInt8)(h:(wd i++t).length≤1048576):Dt (wd i++t)=(([3,4,5,9]:List Int).getD i 0,0,0,(BW t).1):=by
 have hm:(58:UInt8)∈wd i++t:=by rw[Ci];exact .inl (TP i hi)
 have e1:sEq (wd i++t) [(110:UInt8),111,110,101]=false:=Ch (Cr hm (by decide));have e2:sEq (wd i++t) [(112:UInt8),97,115,115]=false:=Ch (Cr hm (by decide));have e3:sEq (wd i++t) [(99:UInt8),97,112,115]=false:=Ch (Cr hm (by decide))
 have e4:=rC (wd i++t) h i hi ⟨t,rfl⟩ (fun j hj hp=>by
  rcases (show i=0∨i=1∨i=2∨i=3 by omega) with rfl|rfl|rfl|rfl
  · omega
  · have:j=0:=by omega
    subst this;simp[wd] at hp
  · rcases (show j=0∨j=1 by omega) with rfl|rfl<;>simp[wd] at hp
  · rcases (show j=0∨j=1∨j=2 by omega) with rfl|rfl|rfl<;>simp[wd] at hp)
 have e6:iLt (i:Int) (lLen [(3:Int),4,5,9])=true:=by rw[Ap,Aq];exact B5 (by show (i:Int)<4;omega)
 rw[MP,e1,e2,e3,e4,e6,Ar,Ba,(Ue i hi).2,(SN (wd i) t h).2,Bg];simp only[AY,A5,(bF t).2.2]
theorem qy(t:List UInt8)(h:([111,110,99,101,58]++t:List UInt8).length≤1048576):Dt ([111,110,99,101,58]++t)=(8,0,D6 t,0):=by
 have hm:(58:UInt8)∈([111,110,99,101,58]++t:List UInt8):=by simp
 have e1:sEq ([111,110,99,101,58]++t) [(110:UInt8),111,110,101]=false:=Ch (Cr hm (by decide));have e2:sEq ([111,110,99,101,58]++t) [(112:UInt8),97,115,115]=false:=Ch (Cr hm (by decide));have e3:sEq ([111,110,99,101,58]++t) [(99:UInt8),97,112,115]=false:=Ch (Cr hm (by decide))
 have e4:=dX ([111,110,99,101,58]++t) h (fun j hj hp=>by
  rcases (show j=0∨j=1∨j=2∨j=3 by omega) with rfl|rfl|rfl|rfl<;>simp[wd] at hp)
 have e6:iLt 4 (lLen [(3:Int),4,5,9])=false:=by rw[Ap,Aq];rfl
 rw[MP,e1,e2,e3,e4,e6,(SN [111,110,99,101,58] t h).2,Bg];simp only[AY,(Pq t).2.2]
theorem fx(m:Int):BW (B7 m)=(0,false):=by
 rcases (Su (B7 m)).2 with⟨h,_⟩|⟨n,n1,n2,_⟩
 · exact h
 · obtain⟨l1,_⟩:=NW 9 n.natAbs n1 (by decide);exfalso
   cases hl:Lib.decDigits n.natAbs with
   |nil=>rw[hl] at l1;simp at l1
   | cons b r=>
     have hb:=P7 9 n.natAbs n1 b (by rw[hl];simp)
     have hm:b∈B7 m:=by
      rw[← n2];unfold Lib.itoa;split
      · rw[hl];simp
      · rw[show n.toNat=n.natAbs by omega,hl];simp
     have:=fH m b hm;simp only[BG,List.not_mem_nil,or_false] at this;rcases this with rfl|rfl|rfl|rfl<;>exact absurd hb.2 (by decide)
theorem S6(n:Int)(h:n.natAbs<10^9):BW (Lib.itoa n)=(n,true):=by
 rcases (Su (Lib.itoa n)).2 with⟨_,h2⟩|⟨k,k1,k2,k3⟩
 · exact absurd rfl (h2 n h)
 · rw[k3,fp k1 h k2]
theorem Ti(k c m n:Int)(h:B1 (k,c,m,n)=true) :
 (k=0∧A0 (k,c,m,n)=JP)∨(k=1∧A0 (k,c,m,n)=HF)∨(k=10∧A0 (k,c,m,n)=Ga) ∨
 (k=2∧m=0∧A0 (k,c,m,n)=BC c)∨(k=2∧m≠0∧A0 (k,c,m,n)=B7 m++45::BC c) ∨
 (∃ i,i<4∧k=([3,4,5,9]:List Int).getD i 0∧A0 (k,c,m,n)=wd i++Lib.itoa n) ∨
 (k=6∧A0 (k,c,m,n)=B7 m++47::BC c)∨(k=7∧A0 (k,c,m,n)=Lib.itoa n++47::BC c)∨(k=8∧A0 (k,c,m,n)=[111,110,99,101,58]++B7 m):=by
 obtain⟨hk,hn⟩:=Tt k c m n h
 rw[A0,h,AD]
 have hi:k=3∨k=4∨k=5∨k=7∨k=9→Dh n=Lib.itoa n:=fun hk=>(aV n (by have:=hn hk;omega)).2
 simp only[E6,AY,Cy,AQ,Jz]
 rcases (show k=0∨k=1∨k=2∨k=3∨k=4∨k=5∨k=6∨k=7∨k=8∨k=9∨k=10 by omega) with rfl|rfl|rfl|rfl|rfl|rfl|rfl|rfl|rfl|rfl|rfl
 · exact .inl ⟨rfl,by simp[JP]⟩
 · exact .inr (.inl ⟨rfl,by simp[HF]⟩)
 · by_cases hm:m=0
   · exact .inr (.inr (.inr (.inl ⟨rfl,hm,by simp[hm]⟩)))
   · exact .inr (.inr (.inr (.inr (.inl ⟨rfl,hm,by simp[hm]⟩))))
 · exact .inr (.inr (.inr (.inr (.inr (.inl ⟨0,by decide,rfl,by rw[hi (by omega)];simp[wd]⟩)))))
 · exact .inr (.inr (.inr (.inr (.inr (.inl ⟨1,by decide,rfl,by rw[hi (by omega)];simp[wd]⟩)))))
 · exact .inr (.inr (.inr (.inr (.inr (.inl ⟨2,by decide,rfl,by rw[hi (by omega)];simp[wd]⟩)))))
 · exact .inr (.inr (.inr (.inr (.inr (.inr (.inl ⟨rfl,by simp⟩))))))
 · exact .inr (.inr (.inr (.inr (.inr (.inr (.inr (.inl ⟨rfl,by rw[hi (by omega)];simp⟩)))))))
 · exact .inr (.inr (.inr (.inr (.inr (.inr (.inr (.inr ⟨rfl,by simp⟩)))))))
 · exact .inr (.inr (.inr (.inr (.inr (.inl ⟨3,by decide,rfl,by rw[hi (by omega)];simp[wd]⟩)))))
 · exact .inr (.inr (.inl ⟨rfl,by simp[Ga]⟩))
end
section
set_option maxRecDepth 20000
theorem XI(a:Gp):(A0 a).length≤20:=(HS a).2.2.2
theorem C9{b:UInt8}(hb:b∈([32,45,47,58,61,124]:List UInt8))(k:Int):b ∉ BC k:=fun h=>rL k b h hb
theorem Ft{b:UInt8}(hb:b ∉ ([67,83,65,71]:List UInt8))(m:Int):b ∉ B7 m:=fun h=>hb (fH m b h)
theorem LQ{b:UInt8}(hb:b.toNat<48∨57<b.toNat)(n:Int)(h0:0≤n)(h1:n≤3):b ∉ Lib.itoa n:=fun h=>by
 unfold Lib.itoa at h
 rw[Ad (by omega)] at h
 have:=P7 9 n.toNat (by omega) b h
 omega
theorem Xr(c:Int)(h1:1≤c)(h2:c≤56):BC c≠[]∧BC c≠JP∧BC c≠HF∧BC c≠Ga:=by
 have key:∀ w∈Co,w≠[]∧w≠JP∧w≠HF∧w≠Ga:=by decide
 have hb:=H4 c (by omega) h2;rcases Wi c with h|⟨_,_,h⟩
 · exfalso;have h0:=H4 0 (by decide) (by decide)
   have e:BC 0=[]:=by
    rcases Wi 0 with h|⟨h,_⟩
    · exact h
    · omega
   rw[e] at h0;rw[h,h0] at hb;omega
 · exact key _ h
theorem vw(a:Gp)(h:B1 a=true):A0 a≠[]:=by
 obtain⟨k,c,m,n⟩:=a;have hc:=PJ k c m n h;rcases Ti k c m n h with⟨_,e⟩|⟨_,e⟩|⟨_,e⟩|⟨h1,h2,e⟩|⟨_,_,e⟩|⟨i,hi,_,e⟩|⟨_,e⟩|⟨_,e⟩|⟨_,e⟩<;>rw[e]
 · decide
 · decide
 · decide
 · exact(Xr c (by omega) (by omega)).1
 · simp
 · have:=TP i hi;intro h0;have:wd i=[]:=(List.append_eq_nil_iff.1 h0).1;rw[this] at *;simp_all
 · simp
 · simp
 · simp
theorem N4(m:Int)(h0:0≤m)(h1:m≤15):D6 (B7 m)=m:=by
 obtain⟨k,rfl⟩:∃ k:Nat,m=k:=⟨m.toNat,by omega⟩;exact nh (by omega)
theorem HC{b:UInt8}{x y:List UInt8}(c:UInt8)(h1:b ∉ x)(h2:b≠c)(h3:b ∉ y):b ∉ x++c::y:=by
 simp[h1,h2,h3]
theorem Wr(a:Gp)(h:B1 a=true):Dt (A0 a)=a:=by
 obtain⟨k,c,m,n⟩:=a;have hc:=PJ k c m n h;have hl:(A0 (k,c,m,n)).length≤1048576:=Cv (XI _) (by decide);rcases Ti k c m n h with⟨h1,e⟩|⟨h1,e⟩|⟨h1,e⟩|⟨h1,h2,e⟩|⟨h1,h2,e⟩|⟨i,hi,h1,e⟩|⟨h1,e⟩|⟨h1,e⟩|⟨h1,e⟩<;>rw[e] at hl ⊢
 · have e1:sEq JP [(110:UInt8),111,110,101]=true:=by rw[Ce];rfl
   obtain⟨rfl,rfl,rfl⟩:c=0∧m=0∧n=0:=by omega
   rw[MP,e1,Bg,h1]
 · have e1:sEq HF [(110:UInt8),111,110,101]=false:=by rw[Ce];rfl
   have e2:sEq HF [(112:UInt8),97,115,115]=true:=by rw[Ce];rfl
   obtain⟨rfl,rfl,rfl⟩:c=0∧m=0∧n=0:=by omega
   rw[MP,e1,e2,AY,Bg,h1]
 · have e1:sEq Ga [(110:UInt8),111,110,101]=false:=by rw[Ce];rfl
   have e2:sEq Ga [(112:UInt8),97,115,115]=false:=by rw[Ce];rfl
   have e3:sEq Ga [(99:UInt8),97,112,115]=true:=by rw[Ce];rfl
   obtain⟨rfl,rfl,rfl⟩:c=0∧m=0∧n=0:=by omega
   rw[MP,e1,e2,e3,AY,AY,Bg,h1]
 · obtain⟨q1,q2,q3,q4⟩:=Xr c (by omega) (by omega);rw[pk _ hl (C9 (by decide) c) (C9 (by decide) c) (C9 (by decide) c) q2 q3 q4,H4 c (by omega) (by omega)]
   obtain rfl:n=0:=by omega
   rw[h1,h2]
 · rw[qe _ _ hl (HC 45 (Ft (by decide) m) (by decide) (C9 (by decide) c)) (HC 45 (Ft (by decide) m) (by decide) (C9 (by decide) c)) (Ft (by decide) m),H4 c (by omega) (by omega),N4 m (by omega) (by omega)]
   obtain rfl:n=0:=by omega
   rw[h1]
 · have hk:c=0∧m=0∧0≤n∧n≤3:=by
    rcases (show i=0∨i=1∨i=2∨i=3 by omega) with rfl|rfl|rfl|rfl<;>(have h1:k=_:=h1;simp at h1;omega)
   obtain⟨rfl,rfl,h3,h4⟩:=hk;rw[qd i hi _ hl,S6 n (by omega),← h1]
 · rw[cd _ _ hl (HC 47 (Ft (by decide) m) (by decide) (C9 (by decide) c)) (Ft (by decide) m),fx,AY,H4 c (by omega) (by omega),N4 m (by omega) (by omega)]
   obtain rfl:n=0:=by omega
   rw[h1]
 · rw[cd _ _ hl (HC 47 (LQ (by decide) n (by omega) (by omega)) (by decide) (C9 (by decide) c)) (LQ (by decide) n (by omega) (by omega)),S6 n (by omega),Bg,H4 c (by omega) (by omega)]
   obtain rfl:m=0:=by omega
   rw[h1]
 · rw[qy _ hl,N4 m (by omega) (by omega)]
   obtain⟨rfl,rfl⟩:c=0∧n=0:=by omega
   rw[h1]
def gS(x:List UInt8):Gp:=
 bSel (sEq x [(110:UInt8),111,110,101]) (0,0,0,0) (bSel (sEq x [(112:UInt8),97,115,115]) (1,0,0,0) (bSel (sEq x [(99:UInt8),97,112,115]) (10,0,0,0)
 (bSel (iEq (lLen (An (x,58))) 2) (Dx (8,(lGet (An (x,58)) (iNat 0) []),(lGet (An (x,58)) (iNat 1) [])))
 (bSel (iEq (lLen (An (x,47))) 2) (bSel (BW (lGet (An (x,47)) (iNat 0) [])).2 (7,Ct (lGet (An (x,47)) (iNat 1) []),0,(BW (lGet (An (x,47)) (iNat 0) [])).1) (6,Ct (lGet (An (x,47)) (iNat 1) []),D6 (lGet (An (x,47)) (iNat 0) []),0))
 (bSel (iEq (lLen (An (x,45))) 2) (2,Ct (lGet (An (x,45)) (iNat 1) []),D6 (lGet (An (x,45)) (iNat 0) []),0) (2,Ct x,0,0))))))
theorem sE(x:List UInt8):O1 x=bSel (bOr (sEq x []) (sNe (A0 (gS x)) x)) ((0,0,0,0),false) (gS x,true):=by
 rw[O1];unfold gS;generalize sEq x [(110:UInt8),111,110,101]=b1;generalize sEq x [(112:UInt8),97,115,115]=b2;generalize sEq x [(99:UInt8),97,112,115]=b3;generalize iEq (lLen (An (x,58))) 2=b4;generalize iEq (lLen (An (x,47))) 2=b5;generalize iEq (lLen (An (x,45))) 2=b6;generalize BW (lGet (An (x,47)) (iNat 0) [])=b7;obtain⟨n7,b7⟩:=b7;cases b1
 · cases b2
   · cases b3
     · cases b4
       · cases b5
         · cases b6<;>simp only[AY,Bg]
         · cases b7<;>simp only[AY,Bg]
       · simp only[AY,Bg]
     · simp only[AY,Bg]
   · simp only[AY,Bg]
 · simp only[Bg]
theorem QI{y c:UInt8}(h:y≠c):((y.toNat:Nat):Int)≠((c.toNat:Nat):Int):=fun e=>h (UInt8.toNat_inj.1 (by omega))
theorem LI{x:List UInt8}(c:UInt8)(h:c ∉ x)(hl:x.length≤1048576):An (x,(c.toNat:Int))=[x]:=by
 rw[(Th x _ hl).2]
 exact Ns x _ fun b hb=>QI (c:=c) fun e=>h (e▸hb)
theorem PI{x y:List UInt8}(c:UInt8)(h1:c ∉ x)(h2:c ∉ y)(hl:(x++c::y).length≤1048576):An (x++c::y,(c.toNat:Int))=[x,y]:=by
 rw[(Th _ _ hl).2,PL x c y _ (fun b hb=>QI (c:=c) fun e=>h1 (e▸hb)) rfl,Ns y _ fun b hb=>QI (c:=c) fun e=>h2 (e▸hb)]
theorem n1(a:List UInt8):iEq (lLen [a]) 2=false:=by rw[Cy,Aq];rfl
theorem n2(a b:List UInt8):iEq (lLen [a,b]) 2=true:=by rw[Cy,Aq];rfl
theorem g0(a b:List UInt8):lGet [a,b] (iNat 0) []=a:=by rw[A5,Ar];rfl
theorem g1(a b:List UInt8):lGet [a,b] (iNat 1) []=b:=by rw[A5,Ar];rfl
theorem uA(a:Gp)(h:B1 a=true):gS (A0 a)=a:=by
 obtain⟨k,c,m,n⟩:=a;have hc:=PJ k c m n h;have hl:(A0 (k,c,m,n)).length≤1048576:=Cv (XI _) (by decide);rcases Ti k c m n h with⟨h1,e⟩|⟨h1,e⟩|⟨h1,e⟩|⟨h1,h2,e⟩|⟨h1,h2,e⟩|⟨i,hi,h1,e⟩|⟨h1,e⟩|⟨h1,e⟩|⟨h1,e⟩<;>rw[e] at hl ⊢<;>unfold gS
 · have e1:sEq JP [(110:UInt8),111,110,101]=true:=by rw[Ce];rfl
   obtain⟨rfl,rfl,rfl⟩:c=0∧m=0∧n=0:=by omega
   rw[e1,Bg,h1]
 · have e1:sEq HF [(110:UInt8),111,110,101]=false:=by rw[Ce];rfl
   have e2:sEq HF [(112:UInt8),97,115,115]=true:=by rw[Ce];rfl
   obtain⟨rfl,rfl,rfl⟩:c=0∧m=0∧n=0:=by omega
   rw[e1,e2,AY,Bg,h1]
 · have e1:sEq Ga [(110:UInt8),111,110,101]=false:=by rw[Ce];rfl
   have e2:sEq Ga [(112:UInt8),97,115,115]=false:=by rw[Ce];rfl
   have e3:sEq Ga [(99:UInt8),97,112,115]=true:=by rw[Ce];rfl
   obtain⟨rfl,rfl,rfl⟩:c=0∧m=0∧n=0:=by omega
   rw[e1,e2,e3,AY,AY,Bg,h1]
 · obtain⟨q1,q2,q3,q4⟩:=Xr c (by omega) (by omega);have s1:=LI 58 (C9 (by decide) c) hl;have s2:=LI 47 (C9 (by decide) c) hl;have s3:=LI 45 (C9 (by decide) c) hl;have q2:sEq (BC c) [(110:UInt8),111,110,101]=false:=Ch q2;have q3:sEq (BC c) [(112:UInt8),97,115,115]=false:=Ch q3;have q4:sEq (BC c) [(99:UInt8),97,112,115]=false:=Ch q4;rw[q2,q3,q4,show (58:Int)=((58:UInt8).toNat:Int) from rfl,s1,show (47:Int)=((47:UInt8).toNat:Int) from rfl,s2,show (45:Int)=((45:UInt8).toNat:Int) from rfl,s3];simp only[n1,AY]
   obtain rfl:n=0:=by omega
   rw[H4 c (by omega) (by omega),h1,h2]
 · have hm:(45:UInt8)∈B7 m++45::BC c:=by simp
   have s1:=LI 58 (HC 45 (Ft (by decide) m) (by decide) (C9 (by decide) c)) hl;have s2:=LI 47 (HC 45 (Ft (by decide) m) (by decide) (C9 (by decide) c)) hl;have s3:=PI 45 (Ft (by decide) m) (C9 (by decide) c) hl;rw[Ch (Cr hm (by decide)),Ch (Cr hm (by decide)),Ch (Cr hm (by decide)),show (58:Int)=((58:UInt8).toNat:Int) from rfl,s1,show (47:Int)=((47:UInt8).toNat:Int) from rfl,s2,show (45:Int)=((45:UInt8).toNat:Int) from rfl,s3];simp only[n1,n2,g0,g1,AY,Bg]
   obtain rfl:n=0:=by omega
   rw[H4 c (by omega) (by omega),N4 m (by omega) (by omega),h1]
 · have hk:c=0∧m=0∧0≤n∧n≤3:=by
    rcases (show i=0∨i=1∨i=2∨i=3 by omega) with rfl|rfl|rfl|rfl<;>(have h1:k=_:=h1;simp at h1;omega)
   obtain⟨rfl,rfl,h3,h4⟩:=hk
   have hm:(58:UInt8)∈wd i++Lib.itoa n:=by rw[Ci];exact .inl (TP i hi)
   obtain⟨w,hw,hw2,hw3⟩:∃ w,wd i=w++[58]∧(58:UInt8) ∉ w∧∀ t,Dx (8,w,t)=(([3,4,5,9]:List Int).getD i 0,0,0,(BW t).1):=by
    rcases (show i=0∨i=1∨i=2∨i=3 by omega) with rfl|rfl|rfl|rfl
    · exact⟨[109,111],rfl,by decide,fun t=>by rw[Dx];simp only[Ce,AQ];rfl⟩
    · exact⟨[116,103],rfl,by decide,fun t=>by rw[Dx];simp only[Ce,AQ];rfl⟩
    · exact⟨[116,111],rfl,by decide,fun t=>by rw[Dx];simp only[Ce,AQ];rfl⟩
    · exact⟨[109,97,99,114,111],rfl,by decide,fun t=>by rw[Dx];simp only[Ce,AQ];rfl⟩
   have e0:wd i++Lib.itoa n=w++58::Lib.itoa n:=by rw[hw];simp
   have s1:=PI 58 hw2 (LQ (by decide) n h3 h4) (by rw[← e0];exact hl);rw[Ch (Cr hm (by decide)),Ch (Cr hm (by decide)),Ch (Cr hm (by decide)),e0,show (58:Int)=((58:UInt8).toNat:Int) from rfl,s1];simp only[n2,g0,g1,AY,Bg,hw3,S6 n (show n.natAbs<10^9 by omega)];rw[← h1]
 · have hm:(47:UInt8)∈B7 m++47::BC c:=by simp
   have s1:=LI 58 (HC 47 (Ft (by decide) m) (by decide) (C9 (by decide) c)) hl;have s2:=PI 47 (Ft (by decide) m) (C9 (by decide) c) hl;rw[Ch (Cr hm (by decide)),Ch (Cr hm (by decide)),Ch (Cr hm (by decide)),show (58:Int)=((58:UInt8).toNat:Int) from rfl,s1,show (47:Int)=((47:UInt8).toNat:Int) from rfl,s2];simp only[n1,n2,g0,g1,AY,Bg,fx]
   obtain rfl:n=0:=by omega
   rw[H4 c (by omega) (by omega),N4 m (by omega) (by omega),h1]
 · have hm:(47:UInt8)∈Lib.itoa n++47::BC c:=by simp
   have s1:=LI 58 (HC 47 (LQ (by decide) n (by omega) (by omega)) (by decide) (C9 (by decide) c)) hl;have s2:=PI 47 (LQ (by decide) n (by omega) (by omega)) (C9 (by decide) c) hl;rw[Ch (Cr hm (by decide)),Ch (Cr hm (by decide)),Ch (Cr hm (by decide)),show (58:Int)=((58:UInt8).toNat:Int) from rfl,s1,show (47:Int)=((47:UInt8).toNat:Int) from rfl,s2];simp only[n1,n2,g0,g1,AY,Bg,S6 n (show n.natAbs<10^9 by omega)]
   obtain rfl:m=0:=by omega
   rw[H4 c (by omega) (by omega),h1]
 · have hm:(58:UInt8)∈([111,110,99,101,58]++B7 m:List UInt8):=by simp
   have e0:([111,110,99,101,58]++B7 m:List UInt8)=[111,110,99,101]++58::B7 m:=rfl;have s1:=PI (x:=[111,110,99,101]) 58 (by decide) (Ft (b:=58) (by decide) m) (by rw[← e0];exact hl);rw[Ch (Cr hm (by decide)),Ch (Cr hm (by decide)),Ch (Cr hm (by decide)),e0,show (58:Int)=((58:UInt8).toNat:Int) from rfl,s1];simp only[n2,g0,g1,AY,Bg]
   obtain⟨rfl,rfl⟩:c=0∧n=0:=by omega
   rw[Dx];simp only[Ce,AQ,N4 m (by omega) (by omega)];rw[h1];rfl
theorem uU(a:Gp)(h:B1 a=false):A0 a=[]:=by
 rw[A0,h,AD,Bool.not_false,Bg]
theorem me(s:List UInt8)(h:s.length≤1048576):Vm s:=by
 have pm:∀ x,MT x:=fun x=>(Pq x).1
 have co:∀ x,Lw x:=fun x=>(PE x).1
 have pi:∀ x,M4 x:=fun x=>(Su x).1
 have fa:∀ x,OT x:=fun x=>(HS x).1
 have sp:∀ c:Int,Lk (s,c):=fun c=>(Th s c h).1
 have l5:∀ x,VS x:=fun x=>by
  rw[VS];exact⟨pi _,fun _=>trivial,fun _=>⟨fun _=>trivial,fun _=>⟨fun _=>trivial,fun _=>⟨fun _=>trivial,fun _=>pm _⟩⟩⟩⟩
 have two:∀ l:List (List UInt8),iEq (lLen l) 2=true→l.length=2:=fun l hl=>by
  rw[Cy,Aq,AA] at hl;omega
 rw[Vm];refine⟨co _,sp _,sp _,sp _,⟨fun _=>trivial,fun _=>⟨fun _=>trivial,fun _=>⟨fun _=>trivial,fun _=>⟨fun hl=>?_,fun _=>⟨fun hl=>?_,fun _=>⟨fun hl=>?_,fun _=>trivial⟩⟩⟩⟩⟩⟩,fun _=>trivial,fun _=>fa _⟩
 · have:=two _ hl;simp only[Ar];exact⟨⟨by omega,by omega⟩,by show 0<_;omega,⟨by omega,by omega⟩,by show 1<_;omega,l5 _⟩
 · have:=two _ hl;simp only[Ar];exact⟨⟨by omega,by omega⟩,by show 0<_;omega,pi _,⟨by omega,by omega⟩,by show 1<_;omega,⟨by omega,by omega⟩,by show 0<_;omega,co _,pm _,fun _=>⟨⟨by omega,by omega⟩,by show 1<_;omega,co _⟩,fun _=>trivial⟩
 · have:=two _ hl;simp only[Ar];exact⟨⟨by omega,by omega⟩,by show 1<_;omega,⟨by omega,by omega⟩,by show 0<_;omega,co _,pm _⟩
theorem ml(s:List UInt8)(h:s.length≤1048576):Vm s∧MO s∧I0 s=O1 s ∧
 ((∃ a:Gp,B1 a=true∧A0 a=s∧O1 s=(a,true))∨((∀ a:Gp,B1 a=true→A0 a≠s)∧O1 s=((0,0,0,0),false))):=by
 refine⟨me s h,nA s h,?_⟩
 rw[sE,ki,← Jh,(HS _).2.2.1]
 by_cases hx:∃ a:Gp,B1 a=true∧A0 a=s
 · obtain⟨a,a1,rfl⟩:=hx
   have e1:sEq (A0 a) []=false:=Ch (vw a a1)
   have e2:sNe (A0 a) (A0 a)=false:=by rw[KM];simp
   rw[uA a a1,Wr a a1,a1,e1,e2,AD,Bp,Bp,E6,Bool.or_false,AY];exact⟨rfl,.inl ⟨a,a1,rfl,rfl⟩⟩
 · have no:∀ a:Gp,B1 a=true→A0 a≠s:=fun a h1 h2=>hx ⟨a,h1,h2⟩
   have e1:bOr (sEq s []) (sNe (A0 (gS s)) s)=true:=by
    rw[Bp,Ce,KM];by_cases hs:s=[]
    · subst hs;rfl
    · have:A0 (gS s)≠s:=by
       cases hv:B1 (gS s) with
       |true=>exact no _ hv
       |false=>rw[uU _ hv];exact F6 hs
      simp[this]
   have e2:bOr (bNot (B1 (Dt s))) (sNe (A0 (Dt s)) s)=true:=by
    rw[Bp,AD,KM]
    cases hv:B1 (Dt s) with
    |true=>simp[no _ hv]
    |false=>rfl
   rw[e1,e2,Bg,Bg];exact⟨rfl,.inr ⟨no,rfl⟩⟩
end
section
set_option maxRecDepth 20000
theorem Ws(w:List UInt8)(l:List (List UInt8))(sep:List UInt8)(h:l≠[]):Bn (w::l) sep=w++(sep++Bn l sep):=by
 cases l with
 |nil=>exact absurd rfl h
 |cons a r=>simp[Bn,List.intercalate,List.intersperse]
theorem bC(b:UInt8):∀ (l:List (List UInt8)),l≠[]→(∀ w∈l,b ∉ w)→DW (Bn l [b]) (b.toNat:Int)=l
 |[],h,_=>absurd rfl h
 | [a],_,h=>by
   have ha:=h a (by simp)
   have e:Bn [a] [b]=a:=by simp[Bn,List.intercalate]
   rw[e]
   exact Ns a _ fun y hy=>QI (c:=b) fun e=>ha (e▸hy)
 | a::c::r,_,h=>by
   have ha:=h a (by simp);have i:=bC b (c::r) (by simp) (fun w hw=>h w (by simp[hw]));rw[Ws _ _ _ (by simp)];show DW (a++b::Bn (c::r) [b]) _=_;rw[PL a b _ _ (fun y hy=>QI (c:=b) fun e=>ha (e▸hy)) rfl,i]
theorem iy(a:Gp)(h:B1 a=true){b:UInt8}(hb:b∈([32,61,124]:List UInt8)):b ∉ A0 a:=by
 obtain⟨k,c,m,n⟩:=a;have hc:=PJ k c m n h
 have hb1:b∈([32,45,47,58,61,124]:List UInt8):=by
  simp only[BG,List.not_mem_nil,or_false] at hb ⊢;rcases hb with rfl|rfl|rfl<;>decide
 have hb2:b ∉ ([67,83,65,71]:List UInt8):=by
  simp only[BG,List.not_mem_nil,or_false] at hb;rcases hb with rfl|rfl|rfl<;>decide
 have hb3:b.toNat<48∨57<b.toNat:=by
  simp only[BG,List.not_mem_nil,or_false] at hb;rcases hb with rfl|rfl|rfl<;>decide
 have hb4:b≠45∧b≠47:=by
  simp only[BG,List.not_mem_nil,or_false] at hb;rcases hb with rfl|rfl|rfl<;>decide
 have hb5:b ∉ JP∧b ∉ HF∧b ∉ Ga∧b ∉ ([111,110,99,101,58]:List UInt8)∧∀ i,i<4→b ∉ wd i:=by
  simp only[BG,List.not_mem_nil,or_false] at hb;rcases hb with rfl|rfl|rfl<;>(refine⟨by decide,by decide,by decide,by decide,fun i hi=>?_⟩;rcases (show i=0∨i=1∨i=2∨i=3 by omega) with rfl|rfl|rfl|rfl<;>decide)
 rcases Ti k c m n h with⟨h1,e⟩|⟨h1,e⟩|⟨h1,e⟩|⟨h1,h2,e⟩|⟨h1,h2,e⟩|⟨i,hi,h1,e⟩|⟨h1,e⟩|⟨h1,e⟩|⟨h1,e⟩<;>rw[e]
 · exact hb5.1
 · exact hb5.2.1
 · exact hb5.2.2.1
 · exact C9 hb1 c
 · exact HC 45 (Ft hb2 m) hb4.1 (C9 hb1 c)
 · have hn:0≤n∧n≤3:=by
    rcases (show i=0∨i=1∨i=2∨i=3 by omega) with rfl|rfl|rfl|rfl<;>(have h1:k=_:=h1;simp at h1;omega)
   rw[Ci];rintro(q|q)
   · exact hb5.2.2.2.2 i hi q
   · exact LQ hb3 n hn.1 hn.2 q
 · exact HC 47 (Ft hb2 m) hb4.2 (C9 hb1 c)
 · exact HC 47 (LQ hb3 n (by omega) (by omega)) hb4.2 (C9 hb1 c)
 · rw[Ci];rintro(q|q)
   · exact hb5.2.2.2.1 q
   · exact Ft hb2 m q
theorem lG(a:Gp)(h:B1 a=true):MO (JZ a)∧I0 (JZ a)=(a,true):=by
 rw[(HS a).2.2.1];obtain⟨_,o2,e,hh⟩:=ml (A0 a) (Cv (XI _) (by decide));refine⟨o2,?_⟩;rw[e];rcases hh with⟨b,b1,b2,b3⟩|⟨no,_⟩
 · rw[b3,← Wr b b1,b2,Wr a h]
 · exact absurd rfl (no a h)
theorem qG(a:Gp)(h:B1 a=true):OP (Gx a)∧HQ (Gx a)=(a,true):=by
 obtain⟨k,c,m,n⟩:=a;obtain⟨hk,hn⟩:=Tt k c m n h;have hc:=PJ k c m n h
 have hb:0≤c∧c≤56∧0≤m∧m≤15∧0≤n∧n≤3:=by omega
 rw[OZ,← Jh,h,AD,E6,AY]
 have e1:iConv .u8 (iAdd .i64 (iMul .i64 16 k) n)=16*k+n:=by
  rw[Js (by unfold Ax;omega),Be (by unfold Ax;omega),L0 (by omega) (by omega)]
 simp only[e1,L0 (show 0≤c by omega) (show c<256 by omega),L0 (show 0≤m by omega) (show m<256 by omega)];rw[ZF,ZI]
 have g0:lGet [16*k+n,c,m] (iNat 0) 0=16*k+n:=by rw[A5,Ar];rfl
 have g1:lGet [16*k+n,c,m] (iNat 1) 0=c:=by rw[A5,Ar];rfl
 have g2:lGet [16*k+n,c,m] (iNat 2) 0=m:=by rw[A5,Ar];rfl
 have d1:iQuo .i64 (iConv .i64 (16*k+n)) 16=k:=by
  rw[Ju (by omega) (by omega),fo (by omega) (by unfold Ax;omega)];omega
 have d2:iRem (iConv .i64 (16*k+n)) 16=n:=by
  rw[Ju (by omega) (by omega),Ub (by omega)];omega
 have l3:iNe (lLen [16*k+n,c,m]) 3=false:=by rw[CX,Aq];rfl
 simp only[g0,g1,g2,d1,d2,l3,Ju (show 0≤c by omega) (show c<9223372036854775808 by omega),Ju (show 0≤m by omega) (show m<9223372036854775808 by omega),← Jh,h,AD,E6,AY];refine⟨?_,trivial⟩
 have i0:iNat 0<3:=by rw[Ar];decide
 have i1:iNat 1<3:=by rw[Ar];decide
 have i2:iNat 2<3:=by rw[Ar];decide
 exact⟨fun h=>(by cases h),fun _=>⟨⟨by decide,by simp⟩,i0,by decide,⟨by decide,by simp⟩,i1,⟨by decide,by simp⟩,i2,⟨by decide,by simp⟩,i0,by decide,MQ _⟩⟩
end
section
set_option maxRecDepth 8000
def jS:DCode:=(.seq [1] (.region [oa 0 1 (.boxB 0 2 (.t 0)),oa 1 2 (.mv (.c (.str [])))]) (.seq [1] (.seq [11,1] (.region [oa 0 9 (.loadB 0 (some 2) (.t 1)),oF 1 10 CN [(.t 9)],oa 2 11 (.un .not (.t 10))]) (.cond (.t 11) (.seq [2] (.region [oa 0 2 (.mv (.c (.str [])))]) .ret) .skip)) (.seq [3,1] (.region [oa 0 3 (.mv (.c .nils))]) (.seq [3] (.seq [15,14,13,3] (.region [oa 0 12 (.fieldA 1 (.t 1)),oa 1 13 (.loadB 0 none (.t 12)),oa 2 14 (.len (.t 13)),oi 3 15 0]) (.block 0 (.loop [3,13,14,15] 1 (.seq [16,15,14,13,3] (.region [oa 0 16 (.bin .lss (.t 15) (.t 14))]) (.seq [15,14,13,3] (.cond (.t 16) .skip (.exit 0)) (.seq [15,14,13,3] (.block 1 (.seq [15,14,13,5,3] (.region [oa 0 17 (.indexA 1 (.t 13) (.t 15)),oa 1 18 (.loadH none (.t 17)),on 2 5 18]) (.seq [15,14,13,6,5,3] (.region [oa 0 6 (.mv (.c .nils))]) (.seq [15,14,13,6,3] (.seq [21,20,19,15,14,13,6,3] (.region [on 0 19 5,oa 1 20 (.len (.t 19)),oi 2 21 0]) (.block 2 (.loop [3,6,13,14,15,19,20,21] 1 (.seq [22,21,20,19,15,14,13,6,3] (.region [oa 0 22 (.bin .lss (.t 21) (.t 20))]) (.seq [21,20,19,15,14,13,6,3] (.cond (.t 22) .skip (.exit 2)) (.seq [21,20,19,15,14,13,6,3] (.block 3 (.seq [21,20,19,15,14,13,8,6,3] (.region [oa 0 23 (.indexA 4 (.t 19) (.t 21)),ob 1 24 (.loadH (some 4) (.t 23)),oa 2 8 (.allocB 1 [(.int .i64 0),(.int .i64 0),(.int .i64 0),(.int .i64 0)]),os 3 (.storeB 1 4 (.t 8) (.t 24))]) (.region [om 0 25 6,oa 1 26 (.loadB 1 (some 4) (.t 8)),oF 2 27 FL [(.t 26)],⟨3,some 28,.a false (.litSlice 1 1 [(.str [])] [(0,1,(.t 27))]) (some (.one (.str))),none,[]⟩,oa 4 29 (.app 1 (.t 25) (.t 28)),om 5 6 29]))) (.region [oa 0 30 (.bin .add (.t 21) (.c (.int .i64 1))),om 1 21 30]))))))) (.region [om 0 31 3,on 1 32 6,oF 2 33 G8 [(.t 32),(.c (.str [32]))],⟨3,some 34,.a false (.litSlice 1 1 [(.str [])] [(0,1,(.t 33))]) (some (.one (.str))),none,[]⟩,oa 4 35 (.app 1 (.t 31) (.t 34)),om 5 3 35]))))) (.region [oa 0 36 (.bin .add (.t 15) (.c (.int .i64 1))),om 1 15 36]))))))) (.seq [2] (.region [on 0 37 3,oF 1 38 G8 [(.t 37),(.c (.str [32,124,32]))],om 2 2 38]) .ret)))))
def FK:Fn:=⟨⟨1,39,2,true,[.tmp 2],jS⟩,[.agg [(.frz,.int .i64),(.frz,.sl (.one (.sl CU)))]],.one (.one .own (.str))⟩
theorem ZE:FK.A:=BS ⟨J3,Zy,Z4,Z4,trivial⟩
def Ds:Int×(List (List (Int×Int×Int×Int)))→List UInt8:=FK.V
def MK:Int×(List (List (Int×Int×Int×Int)))→Prop:=FK.O
theorem ZJ:FK.B:=BV ⟨J2,ZG,Z3,Z3,trivial⟩ (by kernel_rfl) (fun x=>by kernel_rfl)
end
section
set_option maxRecDepth 100000
def Ld(x:Int×(List (List (Int×Int×Int×Int))))(x0:((List (List UInt8))×Int)):Bool:=(bAnd (iLt x0.2 (lLen x.2)) (ER x))
def Lc(x:Int×(List (List (Int×Int×Int×Int))))(x1:((List (List UInt8))×Int)):Bool:=(iLt x1.2 x.1)
def Lb(x:Int×(List (List (Int×Int×Int×Int))))(x0:((List (List UInt8))×Int))(x1:((List (List UInt8))×Int)):((List (List UInt8))×Int):=((lApp x1.1 [(A0 (lGet (lGet x.2 (iNat x0.2) []) (iNat x1.2) (0,0,0,0)))]),(iAdd .i64 x1.2 1))
def MJ(x:Int×(List (List (Int×Int×Int×Int))))(x0:((List (List UInt8))×Int)):((List (List UInt8))×Int):=((lApp x0.1 [(Lu ((Am (Lc x) (Lb x x0) ([],0)).1,[(32:UInt8)]))]),(iAdd .i64 x0.2 1))
def Vd(x:Int×(List (List (Int×Int×Int×Int))))(x0:((List (List UInt8))×Int))(x1:((List (List UInt8))×Int)):Prop:=(((iLt x1.2 x.1)=true→((((0:Int)≤x0.2)∧(x0.2<(((List.length x.2):Int))))∧(((iNat x0.2)<(List.length x.2))∧((((0:Int)≤x1.2)∧(x1.2<(((List.length (lGet x.2 (iNat x0.2) [])):Int))))∧(((iNat x1.2)<(List.length (lGet x.2 (iNat x0.2) [])))∧((OT (lGet (lGet x.2 (iNat x0.2) []) (iNat x1.2) (0,0,0,0)))∧(AE (((List.length x1.1)+(List.length [(A0 (lGet (lGet x.2 (iNat x0.2) []) (iNat x1.2) (0,0,0,0)))]))*1))))))))∧((iLt x1.2 x.1)=false→True))
def OL(x:Int×(List (List (Int×Int×Int×Int))))(x0:((List (List UInt8))×Int)):Prop:=((((iLt x0.2 (lLen x.2))=true→(Ll x))∧((iLt x0.2 (lLen x.2))=false→True))∧(((bAnd (iLt x0.2 (lLen x.2)) (ER x))=true→((LoopOk (Lc x) (Lb x x0) (Vd x x0) ([],0))∧((M3 ((Am (Lc x) (Lb x x0) ([],0)).1,[(32:UInt8)]))∧(AE (((List.length x0.1)+(List.length [(Lu ((Am (Lc x) (Lb x x0) ([],0)).1,[(32:UInt8)]))]))*1)))))∧((bAnd (iLt x0.2 (lLen x.2)) (ER x))=false→True)))
@[irreducible] def ZO(x:Int×(List (List (Int×Int×Int×Int)))):List UInt8:=(Lu ((Am (Ld x) (MJ x) ([],0)).1,[(32:UInt8),124,32]))
@[irreducible] def ZD(x:Int×(List (List (Int×Int×Int×Int)))):Prop:=((LoopOk (Ld x) (MJ x) (OL x) ([],0))∧(M3 ((Am (Ld x) (MJ x) ([],0)).1,[(32:UInt8),124,32])))
def OM(x:Int×(List (List (Int×Int×Int×Int))))(x0:((List (List UInt8))×Int)):Bool:=(iLt x0.2 (lLen x.2))
def K9(x:Int×(List (List (Int×Int×Int×Int))))(x0:((List (List UInt8))×Int))(x1:((List (List UInt8))×Int)):Bool:=(iLt x1.2 (lLen (lGet x.2 (iNat x0.2) [])))
def La(x:Int×(List (List (Int×Int×Int×Int))))(x0:((List (List UInt8))×Int))(x1:((List (List UInt8))×Int)):((List (List UInt8))×Int):=((lApp x1.1 [(JZ (lGet (lGet x.2 (iNat x0.2) []) (iNat x1.2) (0,0,0,0)))]),(iAdd .i64 x1.2 1))
def ON(x:Int×(List (List (Int×Int×Int×Int))))(x0:((List (List UInt8))×Int)):((List (List UInt8))×Int):=((lApp x0.1 [(Lt ((Am (K9 x x0) (La x x0) ([],0)).1,[(32:UInt8)]))]),(iAdd .i64 x0.2 1))
def Vf(x:Int×(List (List (Int×Int×Int×Int))))(x0:((List (List UInt8))×Int))(x1:((List (List UInt8))×Int)):Prop:=(((iLt x1.2 (lLen (lGet x.2 (iNat x0.2) [])))=true→((((0:Int)≤x1.2)∧(x1.2<(((List.length (lGet x.2 (iNat x0.2) [])):Int))))∧(((iNat x1.2)<(List.length (lGet x.2 (iNat x0.2) [])))∧((OQ (lGet (lGet x.2 (iNat x0.2) []) (iNat x1.2) (0,0,0,0)))∧(AE (((List.length x1.1)+(List.length [(JZ (lGet (lGet x.2 (iNat x0.2) []) (iNat x1.2) (0,0,0,0)))]))*1))))))∧((iLt x1.2 (lLen (lGet x.2 (iNat x0.2) [])))=false→True))
def Ve(x:Int×(List (List (Int×Int×Int×Int))))(x0:((List (List UInt8))×Int)):Prop:=(((iLt x0.2 (lLen x.2))=true→((((0:Int)≤x0.2)∧(x0.2<(((List.length x.2):Int))))∧(((iNat x0.2)<(List.length x.2))∧((LoopOk (K9 x x0) (La x x0) (Vf x x0) ([],0))∧((MY ((Am (K9 x x0) (La x x0) ([],0)).1,[(32:UInt8)]))∧(AE (((List.length x0.1)+(List.length [(Lt ((Am (K9 x x0) (La x x0) ([],0)).1,[(32:UInt8)]))]))*1)))))))∧((iLt x0.2 (lLen x.2))=false→True))
theorem jZ (x):Ds x=(bSel (bNot (BL x)) [] (Lt ((Am (OM x) (ON x) ([],0)).1,[(32:UInt8),124,32]))):=(FK.v x).trans (by kernel_rfl)
theorem jV (x):MK x=((G5 x)∧(((bNot (BL x))=true→True)∧((bNot (BL x))=false→((LoopOk (OM x) (ON x) (Ve x) ([],0))∧(MY ((Am (OM x) (ON x) ([],0)).1,[(32:UInt8),124,32])))))):=(FK.o x).trans (by kernel_rfl)
attribute [irreducible] Ds MK
end
section
set_option maxRecDepth 8000
def kq:DCode:=(.seq [2,0] (.region [oa 0 2 (.allocB 0 [(.int .i64 0),.nils]),oa 1 3 (.mv (.c (.bool false)))]) (.seq [4,2,0] (.region [oa 0 4 (.allocB 1 [(.int .i64 0),.nils])]) (.seq [4,2,0] (.seq [15,14,13,4,2,0] (.region [om 0 12 0,oc 1 13 Jd Lv Sc [(.t 12),(.c (.str [32,124,32]))],oa 2 14 (.len (.t 13)),oi 3 15 0]) (.block 0 (.loop [0,2,4,13,14,15] 1 (.seq [16,15,14,13,4,2,0] (.region [oa 0 16 (.bin .lss (.t 15) (.t 14))]) (.seq [15,14,13,4,2,0] (.cond (.t 16) .skip (.exit 0)) (.seq [15,14,13,4,2,0] (.block 1 (.seq [15,14,13,6,4,2,0] (.region [oa 0 17 (.indexA 1 (.t 13) (.t 15)),oa 1 18 (.loadH none (.t 17)),om 2 6 18]) (.seq [15,14,13,7,6,4,2,0] (.region [oa 0 7 (.mv (.c .nils))]) (.seq [15,14,13,7,4,2,0] (.seq [22,21,20,15,14,13,7,4,2,0] (.region [om 0 19 6,oF 1 20 Ja [(.t 19),(.c (.int .u8 32))],oa 2 21 (.len (.t 20)),oi 3 22 0]) (.block 2 (.loop [0,2,4,7,13,14,15,20,21,22] 1 (.seq [23,22,21,20,15,14,13,7,4,2,0] (.region [oa 0 23 (.bin .lss (.t 22) (.t 21))]) (.seq [22,21,20,15,14,13,7,4,2,0] (.cond (.t 23) .skip (.exit 2)) (.seq [22,21,20,15,14,13,7,4,2,0] (.block 3 (.seq [22,21,20,15,14,13,9,7,4,2,0] (.region [oa 0 24 (.indexA 1 (.t 20) (.t 22)),oa 1 25 (.loadH none (.t 24)),om 2 9 25]) (.seq [22,21,20,15,14,13,11,10,7,4,2,0] (.region [om 0 27 9,oF 1 28 IZ [(.t 27)],om 2 26 28,oa 3 29 (.extract (.t 26) 0),oa 4 30 (.extract (.t 26) 1),oa 5 10 (.allocB 2 [(.int .i64 0),(.int .i64 0),(.int .i64 0),(.int .i64 0)]),os 6 (.storeB 2 4 (.t 10) (.t 29)),om 7 11 30]) (.seq [22,21,20,15,14,13,10,7,4,2,0] (.seq [43,22,21,20,15,14,13,10,7,4,2,0] (.region [om 0 31 11,oa 1 32 (.un .not (.t 31)),om 2 33 32,⟨3,some 34,.a true (.mv (.t 7)) none,(some (33,false)),[]⟩,og 4 35 (.len (.t 34)) 33 false,og 5 36 (.bin .geq (.t 35) (.c (.int .i64 32))) 33 false,oa 6 37 (.pick (.t 33) (.c (.bool true)) (.t 36)),om 7 38 37,og 8 39 (.fieldA 1 (.t 4)) 38 false,og 9 40 (.loadB 1 none (.t 39)) 38 false,og 10 41 (.len (.t 40)) 38 false,og 11 42 (.bin .geq (.t 41) (.c (.int .i64 4))) 38 false,oa 12 43 (.pick (.t 38) (.c (.bool true)) (.t 42))]) (.cond (.t 43) (.seq [3,2] (.region [oa 0 44 (.build [(.int .i64 0),.nils] []),os 1 (.storeB 0 2 (.t 2) (.t 44)),oa 2 3 (.mv (.c (.bool false)))]) .ret) .skip)) (.region [om 0 45 7,ob 1 46 (.loadB 2 (some 4) (.t 10)),⟨2,some 47,.a false (.litSlice 4 1 [(.int .i64 0),(.int .i64 0),(.int .i64 0),(.int .i64 0)] [(0,4,(.t 46))]) (some CU),none,[]⟩,oa 3 48 (.app 4 (.t 45) (.t 47)),om 4 7 48]))))) (.region [oa 0 49 (.bin .add (.t 22) (.c (.int .i64 1))),om 1 22 49]))))))) (.seq [15,14,13,7,4,2,0] (.region [on 0 50 7,oa 1 51 (.len (.t 50)),oa 2 52 (.fieldA 0 (.t 4)),os 3 (.storeB 1 1 (.t 52) (.t 51))]) (.region [oa 0 53 (.fieldA 1 (.t 4)),ob 1 54 (.loadB 1 none (.t 53)),om 2 55 7,⟨3,some 56,.a false (.litSlice 1 1 [.nils] [(0,1,(.t 55))]) (some (.one (.sl CU))),none,[]⟩,oa 4 57 (.app 1 (.t 54) (.t 56)),oa 5 58 (.fieldA 1 (.t 4)),os 6 (.storeB 1 1 (.t 58) (.t 57))])))))) (.region [oa 0 59 (.bin .add (.t 15) (.c (.int .i64 1))),om 1 15 59]))))))) (.seq [4,2] (.seq [68,4,2] (.region [oa 0 60 (.loadB 1 (some 2) (.t 4)),oF 1 61 CN [(.t 60)],oa 2 62 (.un .not (.t 61)),om 3 63 62,og 4 64 (.loadB 1 (some 2) (.t 4)) 63 false,⟨5,some 65,.call false FK.S FK.P FK.D [(.t 64)],(some (63,false)),[]⟩,og 6 66 (.mv (.t 0)) 63 false,og 7 67 (.bin .neq (.t 65) (.t 66)) 63 false,oa 8 68 (.pick (.t 63) (.c (.bool true)) (.t 67))]) (.cond (.t 68) (.seq [3,2] (.region [oa 0 69 (.build [(.int .i64 0),.nils] []),os 1 (.storeB 0 2 (.t 2) (.t 69)),oa 2 3 (.mv (.c (.bool false)))]) .ret) .skip)) (.seq [3,2] (.region [ob 0 70 (.loadB 1 (some 2) (.t 4)),os 1 (.storeB 0 2 (.t 2) (.t 70)),oa 2 3 (.mv (.c (.bool true)))]) .ret)))))
def IX:Fn:=⟨⟨1,71,3,false,[.cell 2 (some 2),.tmp 3],kq⟩,[.one .frz (.str)],.tup [.agg [(.own,.int .i64),(.own,.sl (.one (.sl CU)))],.one .own (.bool)]⟩
theorem kn:IX.A:=BS ⟨Vy,lj,ko,J3,ZE,trivial⟩
def Fj:List UInt8→(Int×(List (List (Int×Int×Int×Int))))×Bool:=IX.V
def RE:List UInt8→Prop:=IX.O
theorem kc:IX.B:=BV ⟨VB,lu,kj,J2,ZJ,trivial⟩ (by kernel_rfl) (fun x=>by kernel_rfl)
def mK:DCode:=(.seq [3,2] (.region [oa 0 2 (.boxB 0 2 (.t 0)),oa 1 3 (.boxB 1 2 (.t 1)),oa 2 4 (.mv (.c (.bool false)))]) (.seq [3,2] (.seq [20,3,2] (.region [oa 0 7 (.fieldA 0 (.t 2)),oa 1 8 (.loadB 0 none (.t 7)),oa 2 9 (.fieldA 0 (.t 3)),oa 3 10 (.loadB 1 none (.t 9)),oa 4 11 (.bin .neq (.t 8) (.t 10)),om 5 12 11,og 6 13 (.fieldA 1 (.t 2)) 12 false,og 7 14 (.loadB 0 none (.t 13)) 12 false,og 8 15 (.len (.t 14)) 12 false,og 9 16 (.fieldA 1 (.t 3)) 12 false,og 10 17 (.loadB 1 none (.t 16)) 12 false,og 11 18 (.len (.t 17)) 12 false,og 12 19 (.bin .neq (.t 15) (.t 18)) 12 false,oa 13 20 (.pick (.t 12) (.c (.bool true)) (.t 19))]) (.cond (.t 20) (.seq [4] (.region [oa 0 4 (.mv (.c (.bool false)))]) .ret) .skip)) (.seq [] (.seq [5,3,2] (.region [oi 0 5 0]) (.block 0 (.loop [2,3,5] 1 (.seq [5,3,2] (.seq [25,5,3,2] (.region [om 0 21 5,oa 1 22 (.fieldA 1 (.t 2)),oa 2 23 (.loadB 0 none (.t 22)),oa 3 24 (.len (.t 23)),oa 4 25 (.bin .lss (.t 21) (.t 24))]) (.cond (.t 25) .skip (.exit 0))) (.seq [5,3,2] (.block 1 (.seq [5,3,2] (.seq [40,5,3,2] (.region [oa 0 28 (.fieldA 1 (.t 2)),xA 1 29 (.loadB 0 none (.t 28)) (rg 1),om 2 30 5,xA 3 31 (.indexA 1 (.t 29) (.t 30)) (rg 3),xA 4 32 (.loadH none (.t 31)) (rg 4),xA 5 33 (.len (.t 32)) (rg 5),oa 6 34 (.fieldA 1 (.t 3)),xA 7 35 (.loadB 1 none (.t 34)) [6],om 8 36 5,xA 9 37 (.indexA 1 (.t 35) (.t 36)) [6,7,8],xA 10 38 (.loadH none (.t 37)) [6,7,8,9],xA 11 39 (.len (.t 38)) [6,7,8,9,10],xA 12 40 (.bin .neq (.t 33) (.t 39)) (rg 12)]) (.cond (.t 40) (.seq [4] (.region [oa 0 4 (.mv (.c (.bool false)))]) .ret) .skip)) (.seq [6,5,3,2] (.region [oi 0 6 0]) (.block 2 (.loop [2,3,5,6] 1 (.seq [6,5,3,2] (.seq [48,6,5,3,2] (.region [om 0 41 6,oa 1 42 (.fieldA 1 (.t 2)),oa 2 43 (.loadB 0 none (.t 42)),om 3 44 5,oa 4 45 (.indexA 1 (.t 43) (.t 44)),oa 5 46 (.loadH none (.t 45)),oa 6 47 (.len (.t 46)),oa 7 48 (.bin .lss (.t 41) (.t 47))]) (.cond (.t 48) .skip (.exit 2))) (.seq [6,5,3,2] (.block 3 (.seq [67,6,5,3,2] (.region [oa 0 51 (.fieldA 1 (.t 2)),xA 1 52 (.loadB 0 none (.t 51)) (rg 1),om 2 53 5,xA 3 54 (.indexA 1 (.t 52) (.t 53)) (rg 3),xA 4 55 (.loadH none (.t 54)) (rg 4),om 5 56 6,xA 6 57 (.indexA 4 (.t 55) (.t 56)) (rg 6),xA 7 58 (.loadH (some 4) (.t 57)) (rg 7),oa 8 59 (.fieldA 1 (.t 3)),xA 9 60 (.loadB 1 none (.t 59)) [8],om 10 61 5,xA 11 62 (.indexA 1 (.t 60) (.t 61)) [8,9,10],xA 12 63 (.loadH none (.t 62)) [8,9,10,11],om 13 64 6,xA 14 65 (.indexA 4 (.t 63) (.t 64)) [8,9,10,11,12,13],xA 15 66 (.loadH (some 4) (.t 65)) [8,9,10,11,12,13,14],xA 16 67 (.eqA 4 true (.t 58) (.t 66)) (rg 16)]) (.cond (.t 67) (.seq [4] (.region [oa 0 4 (.mv (.c (.bool false)))]) .ret) .skip))) (.region [om 0 49 6,oa 1 50 (.bin .add (.t 49) (.c (.int .i64 1))),om 2 6 50])))))))) (.region [om 0 26 5,oa 1 27 (.bin .add (.t 26) (.c (.int .i64 1))),om 2 5 27])))))) (.seq [4] (.region [oa 0 4 (.mv (.c (.bool true)))]) .ret))))
def EW:Fn:=⟨⟨2,68,2,true,[.tmp 4],mK⟩,[.agg [(.frz,.int .i64),(.frz,.sl (.one (.sl CU)))],.agg [(.frz,.int .i64),(.frz,.sl (.one (.sl CU)))]],.one (.one .own (.bool))⟩
theorem aa:EW.A:=BS trivial
def G9:(Int×(List (List (Int×Int×Int×Int))))×(Int×(List (List (Int×Int×Int×Int))))→Bool:=EW.V
def O9:(Int×(List (List (Int×Int×Int×Int))))×(Int×(List (List (Int×Int×Int×Int))))→Prop:=EW.O
theorem ak:EW.B:=BV trivial (by kernel_rfl) (fun x=>by kernel_rfl)
def lg:DCode:=(.seq [0] (.region [oa 0 2 (.mv (.c (.bool false)))]) (.seq [0] (.seq [16,0] (.region [on 0 15 0,oF 1 16 Jk [(.t 15)]]) (.cond (.t 16) (.seq [2] (.region [oa 0 2 (.mv (.c (.bool true)))]) .ret) .skip)) (.seq [3,0] (.region [on 0 17 0,oF 1 18 I4 [(.t 17),(.c (.int .i64 6)),(.c (.int .i64 4))],oa 2 3 (.allocB 0 [(.int .i64 0),.nils]),os 3 (.storeB 0 2 (.t 3) (.t 18))]) (.seq [5,4,3,0] (.region [oa 0 20 (.loadB 0 (some 2) (.t 3)),oF 1 21 FK [(.t 20)],oF 2 22 IX [(.t 21)],om 3 19 22,oa 4 23 (.extract (.t 19) 0),oa 5 24 (.extract (.t 19) 1),oa 6 4 (.allocB 1 [(.int .i64 0),.nils]),os 7 (.storeB 1 2 (.t 4) (.t 23)),om 8 5 24]) (.seq [7,6,5,4,3,0] (.region [oa 0 26 (.loadB 0 (some 2) (.t 3)),oF 1 27 I1 [(.t 26)],oF 2 28 IV [(.t 27)],om 3 25 28,oa 4 29 (.extract (.t 25) 0),oa 5 30 (.extract (.t 25) 1),oa 6 6 (.allocB 2 [(.int .i64 0),.nils]),os 7 (.storeB 2 2 (.t 6) (.t 29)),om 8 7 30]) (.seq [8,7,6,5,4,3,0] (.region [on 0 31 0,oF 1 32 I3 [(.t 31)],oa 2 8 (.allocB 3 [(.int .i64 0),(.int .i64 0),(.int .i64 0),(.int .i64 0)]),os 3 (.storeB 3 4 (.t 8) (.t 32))]) (.seq [9,8,7,6,5,4,3,0] (.region [on 0 33 0,oa 1 34 (.fieldA 1 (.t 3)),oa 2 35 (.loadB 0 none (.t 34)),oa 3 36 (.len (.t 35)),oF 4 37 G4 [(.t 33),(.c (.int .i64 7)),(.t 36)],om 5 9 37]) (.seq [10,9,8,7,6,5,4,3] (.region [on 0 38 0,oa 1 39 (.fieldA 0 (.t 3)),oa 2 40 (.loadB 0 none (.t 39)),oF 3 41 G4 [(.t 38),(.c (.int .i64 8)),(.t 40)],om 4 10 41]) (.seq [12,11,10,9,8,7,6,5,4,3] (.region [oa 0 43 (.loadB 0 (some 2) (.t 3)),om 1 44 9,om 2 45 10,oa 3 46 (.loadB 3 (some 4) (.t 8)),oF 4 47 I9 [(.t 43),(.t 44),(.t 45),(.t 46)],om 5 42 47,oa 6 48 (.extract (.t 42) 0),oa 7 49 (.extract (.t 42) 1),oa 8 11 (.allocB 4 [(.int .i64 0),.nils]),os 9 (.storeB 4 2 (.t 11) (.t 48)),om 10 12 49]) (.seq [12,11,10,9,8,3] (.seq [72,12,11,10,9,8,3] (.region [oa 0 50 (.loadB 0 (some 2) (.t 3)),oF 1 51 CN [(.t 50)],oa 2 52 (.un .not (.t 51)),om 3 53 52,og 4 54 (.mv (.t 5)) 53 false,og 5 55 (.un .not (.t 54)) 53 false,oa 6 56 (.pick (.t 53) (.c (.bool true)) (.t 55)),om 7 57 56,og 8 58 (.mv (.t 7)) 57 false,og 9 59 (.un .not (.t 58)) 57 false,oa 10 60 (.pick (.t 57) (.c (.bool true)) (.t 59)),om 11 61 60,og 12 62 (.loadB 1 (some 2) (.t 4)) 61 false,og 13 63 (.loadB 0 (some 2) (.t 3)) 61 false,⟨14,some 64,.call false EW.S EW.P EW.D [(.t 62),(.t 63)],(some (61,false)),[]⟩,og 15 65 (.un .not (.t 64)) 61 false,oa 16 66 (.pick (.t 61) (.c (.bool true)) (.t 65)),om 17 67 66,og 18 68 (.loadB 2 (some 2) (.t 6)) 67 false,og 19 69 (.loadB 0 (some 2) (.t 3)) 67 false,⟨20,some 70,.call false EW.S EW.P EW.D [(.t 68),(.t 69)],(some (67,false)),[]⟩,og 21 71 (.un .not (.t 70)) 67 false,oa 22 72 (.pick (.t 67) (.c (.bool true)) (.t 71))]) (.cond (.t 72) (.seq [2] (.region [oa 0 2 (.mv (.c (.bool false)))]) .ret) .skip)) (.seq [11,10,9,8,3] (.seq [74,11,10,9,8,3] (.region [om 0 73 12,oa 1 74 (.un .not (.t 73))]) (.cond (.t 74) (.seq [2] (.region [oa 0 75 (.fieldA 3 (.t 8)),oa 1 76 (.loadB 3 none (.t 75)),oa 2 77 (.fieldA 1 (.t 3)),oa 3 78 (.loadB 0 none (.t 77)),oa 4 79 (.len (.t 78)),oa 5 80 (.bin .geq (.t 76) (.t 79)),om 6 2 80]) .ret) .skip)) (.seq [11,10,9,8,3] (.seq [92,11,10,9,8,3] (.region [oa 0 81 (.loadB 4 (some 2) (.t 11)),oF 1 82 CN [(.t 81)],oa 2 83 (.un .not (.t 82)),om 3 84 83,og 4 85 (.fieldA 1 (.t 11)) 84 false,og 5 86 (.loadB 4 none (.t 85)) 84 false,og 6 87 (.len (.t 86)) 84 false,og 7 88 (.fieldA 1 (.t 3)) 84 false,og 8 89 (.loadB 0 none (.t 88)) 84 false,og 9 90 (.len (.t 89)) 84 false,og 10 91 (.bin .neq (.t 87) (.t 90)) 84 false,oa 11 92 (.pick (.t 84) (.c (.bool true)) (.t 91))]) (.cond (.t 92) (.seq [2] (.region [oa 0 2 (.mv (.c (.bool false)))]) .ret) .skip)) (.seq [] (.seq [13,11,10,9,8,3] (.region [oi 0 13 0]) (.block 0 (.loop [3,8,9,10,11,13] 1 (.seq [13,11,10,9,8,3] (.seq [97,13,11,10,9,8,3] (.region [om 0 93 13,oa 1 94 (.fieldA 1 (.t 3)),oa 2 95 (.loadB 0 none (.t 94)),oa 3 96 (.len (.t 95)),oa 4 97 (.bin .lss (.t 93) (.t 96))]) (.cond (.t 97) .skip (.exit 0))) (.seq [13,11,10,9,8,3] (.block 1 (.seq [14,13,11,10,9,8,3] (.region [oi 0 14 0]) (.block 2 (.loop [3,8,9,10,11,13,14] 1 (.seq [14,13,11,10,9,8,3] (.seq [103,14,13,11,10,9,8,3] (.region [om 0 100 14,oa 1 101 (.fieldA 0 (.t 3)),oa 2 102 (.loadB 0 none (.t 101)),oa 3 103 (.bin .lss (.t 100) (.t 102))]) (.cond (.t 103) .skip (.exit 2))) (.seq [14,13,11,10,9,8,3] (.block 3 (.seq [113,14,13,11,10,9,8,3] (.region [om 0 106 13,om 1 107 9,oa 2 108 (.bin .eql (.t 106) (.t 107)),om 3 109 108,og 4 110 (.mv (.t 14)) 109 true,og 5 111 (.mv (.t 10)) 109 true,og 6 112 (.bin .eql (.t 110) (.t 111)) 109 true,oa 7 113 (.pick (.t 109) (.t 112) (.c (.bool false)))]) (.cond (.t 113) (.seq [123,14,13,11,10,9,8,3] (.region [oa 0 114 (.fieldA 1 (.t 11)),xA 1 115 (.loadB 4 none (.t 114)) (rg 1),om 2 116 13,xA 3 117 (.indexA 1 (.t 115) (.t 116)) (rg 3),xA 4 118 (.loadH none (.t 117)) (rg 4),om 5 119 14,xA 6 120 (.indexA 4 (.t 118) (.t 119)) (rg 6),xA 7 121 (.loadH (some 4) (.t 120)) (rg 7),oa 8 122 (.loadB 3 (some 4) (.t 8)),xA 9 123 (.eqA 4 true (.t 121) (.t 122)) (rg 9)]) (.cond (.t 123) (.seq [2] (.region [oa 0 2 (.mv (.c (.bool false)))]) .ret) .skip)) (.seq [140,14,13,11,10,9,8,3] (.region [oa 0 124 (.fieldA 1 (.t 11)),xA 1 125 (.loadB 4 none (.t 124)) (rg 1),om 2 126 13,xA 3 127 (.indexA 1 (.t 125) (.t 126)) (rg 3),xA 4 128 (.loadH none (.t 127)) (rg 4),om 5 129 14,xA 6 130 (.indexA 4 (.t 128) (.t 129)) (rg 6),xA 7 131 (.loadH (some 4) (.t 130)) (rg 7),oa 8 132 (.fieldA 1 (.t 3)),xA 9 133 (.loadB 0 none (.t 132)) [8],om 10 134 13,xA 11 135 (.indexA 1 (.t 133) (.t 134)) [8,9,10],xA 12 136 (.loadH none (.t 135)) [8,9,10,11],om 13 137 14,xA 14 138 (.indexA 4 (.t 136) (.t 137)) [8,9,10,11,12,13],xA 15 139 (.loadH (some 4) (.t 138)) [8,9,10,11,12,13,14],xA 16 140 (.eqA 4 true (.t 131) (.t 139)) (rg 16)]) (.cond (.t 140) (.seq [2] (.region [oa 0 2 (.mv (.c (.bool false)))]) .ret) .skip))))) (.region [om 0 104 14,oa 1 105 (.bin .add (.t 104) (.c (.int .i64 1))),om 2 14 105]))))))) (.region [om 0 98 13,oa 1 99 (.bin .add (.t 98) (.c (.int .i64 1))),om 2 13 99])))))) (.seq [2] (.region [oa 0 2 (.mv (.c (.bool true)))]) .ret))))))))))))))
def Gy:Fn:=⟨⟨1,141,5,true,[.tmp 2],lg⟩,[.one .frz (.sl (.one (.int .u8)))],.one (.one .own (.bool))⟩
theorem lR:Gy.A:=BS ⟨oY,kO,ZE,kn,kI,jR,kM,ZQ,ZQ,lp,J3,aa,aa,J3,trivial⟩
def R4:List (Int)→Bool:=Gy.V
def RR:List (Int)→Prop:=Gy.O
end
section
set_option maxRecDepth 100000
def Gv(x:List UInt8)(x0:(Int×(Int×(List (List (Int×(Int×(Int×Int))))))))(x1:((List (Int×(Int×(Int×Int))))×Int)):Bool:=(bAnd (iLt x1.2 (lLen (DN ((lGet (BA (x,[(32:UInt8),124,32])) (iNat x0.1) []),32)))) (bNot (bOr (bNot (I0 (lGet (DN ((lGet (BA (x,[(32:UInt8),124,32])) (iNat x0.1) []),32)) (iNat x1.2) [])).2) (bOr (iGe (lLen x1.1) 32) (iGe (lLen x0.2.2) 4)))))
def G0(x:List UInt8)(x0:(Int×(Int×(List (List (Int×(Int×(Int×Int))))))))(x1:((List (Int×(Int×(Int×Int))))×Int)):((List (Int×(Int×(Int×Int))))×Int):=((lApp x1.1 [(I0 (lGet (DN ((lGet (BA (x,[(32:UInt8),124,32])) (iNat x0.1) []),32)) (iNat x1.2) [])).1]),(iAdd .i64 x1.2 1))
def Fh(x:List UInt8)(x0:(Int×(Int×(List (List (Int×(Int×(Int×Int)))))))):Bool:=(bAnd (iLt x0.1 (lLen (BA (x,[(32:UInt8),124,32])))) (bNot (iLt (Am (Gv x x0) (G0 x x0) ([],0)).2 (lLen (DN ((lGet (BA (x,[(32:UInt8),124,32])) (iNat x0.1) []),32))))))
def FH(x:List UInt8)(x0:(Int×(Int×(List (List (Int×(Int×(Int×Int)))))))):(Int×(Int×(List (List (Int×(Int×(Int×Int))))))):=((iAdd .i64 x0.1 1),(lLen (Am (Gv x x0) (G0 x x0) ([],0)).1),(lApp x0.2.2 [(Am (Gv x x0) (G0 x x0) ([],0)).1]))
def OO(x:List UInt8)(x0:(Int×(Int×(List (List (Int×(Int×(Int×Int))))))))(x1:((List (Int×(Int×(Int×Int))))×Int)):Prop:=(((iLt x1.2 (lLen (DN ((lGet (BA (x,[(32:UInt8),124,32])) (iNat x0.1) []),32))))=true→((((0:Int)≤x1.2)∧(x1.2<(((List.length (DN ((lGet (BA (x,[(32:UInt8),124,32])) (iNat x0.1) []),32))):Int))))∧(((iNat x1.2)<(List.length (DN ((lGet (BA (x,[(32:UInt8),124,32])) (iNat x0.1) []),32))))∧((MO (lGet (DN ((lGet (BA (x,[(32:UInt8),124,32])) (iNat x0.1) []),32)) (iNat x1.2) []))∧(((bOr (bNot (I0 (lGet (DN ((lGet (BA (x,[(32:UInt8),124,32])) (iNat x0.1) []),32)) (iNat x1.2) [])).2) (bOr (iGe (lLen x1.1) 32) (iGe (lLen x0.2.2) 4)))=true→True)∧((bOr (bNot (I0 (lGet (DN ((lGet (BA (x,[(32:UInt8),124,32])) (iNat x0.1) []),32)) (iNat x1.2) [])).2) (bOr (iGe (lLen x1.1) 32) (iGe (lLen x0.2.2) 4)))=false→(AE (((List.length x1.1)+(List.length [(I0 (lGet (DN ((lGet (BA (x,[(32:UInt8),124,32])) (iNat x0.1) []),32)) (iNat x1.2) [])).1]))*4))))))))∧((iLt x1.2 (lLen (DN ((lGet (BA (x,[(32:UInt8),124,32])) (iNat x0.1) []),32))))=false→True))
def Rq(x:List UInt8)(x0:(Int×(Int×(List (List (Int×(Int×(Int×Int)))))))):Prop:=(((iLt x0.1 (lLen (BA (x,[(32:UInt8),124,32]))))=true→((((0:Int)≤x0.1)∧(x0.1<(((List.length (BA (x,[(32:UInt8),124,32]))):Int))))∧(((iNat x0.1)<(List.length (BA (x,[(32:UInt8),124,32]))))∧((O3 ((lGet (BA (x,[(32:UInt8),124,32])) (iNat x0.1) []),32))∧((LoopOk (Gv x x0) (G0 x x0) (OO x x0) ([],0))∧(((iLt (Am (Gv x x0) (G0 x x0) ([],0)).2 (lLen (DN ((lGet (BA (x,[(32:UInt8),124,32])) (iNat x0.1) []),32))))=true→True)∧((iLt (Am (Gv x x0) (G0 x x0) ([],0)).2 (lLen (DN ((lGet (BA (x,[(32:UInt8),124,32])) (iNat x0.1) []),32))))=false→(AE (((List.length x0.2.2)+(List.length [(Am (Gv x x0) (G0 x x0) ([],0)).1]))*1)))))))))∧((iLt x0.1 (lLen (BA (x,[(32:UInt8),124,32]))))=false→True))
theorem kl (x):Fj x=(bSel (iLt (Am (Fh x) (FH x) (0,0,[])).1 (lLen (BA (x,[(32:UInt8),124,32])))) ((0,[]),false) (bSel (bOr (bNot (BL (Am (Fh x) (FH x) (0,0,[])).2)) (sNe (Ds (Am (Fh x) (FH x) (0,0,[])).2) x)) ((0,[]),false) ((Am (Fh x) (FH x) (0,0,[])).2,true))):=(IX.v x).trans (by kernel_rfl)
theorem ke (x):RE x=((I8 (x,[(32:UInt8),124,32]))∧((LoopOk (Fh x) (FH x) (Rq x) (0,0,[]))∧(((iLt (Am (Fh x) (FH x) (0,0,[])).1 (lLen (BA (x,[(32:UInt8),124,32]))))=true→True)∧((iLt (Am (Fh x) (FH x) (0,0,[])).1 (lLen (BA (x,[(32:UInt8),124,32]))))=false→((G5 (Am (Fh x) (FH x) (0,0,[])).2)∧(((bNot (BL (Am (Fh x) (FH x) (0,0,[])).2))=true→True)∧((bNot (BL (Am (Fh x) (FH x) (0,0,[])).2))=false→(MK (Am (Fh x) (FH x) (0,0,[])).2)))))))):=(IX.o x).trans (by kernel_rfl)
theorem mw (x):G9 x=(bAnd (bNot (bOr (iNe x.1.1 x.2.1) (iNe (lLen x.1.2) (lLen x.2.2)))) (bNot (iLt (Am (fun(x0:Int)=>(bAnd (iLt x0 (lLen x.1.2)) (bAnd (bNot (iNe (lLen (lGet x.1.2 (iNat x0) [])) (lLen (lGet x.2.2 (iNat x0) [])))) (bNot (iLt (Am (fun(x1:Int)=>(bAnd (iLt x1 (lLen (lGet x.1.2 (iNat x0) []))) (bNot (bNot (bAnd (iEq (lGet (lGet x.1.2 (iNat x0) []) (iNat x1) (0,0,0,0)).1 (lGet (lGet x.2.2 (iNat x0) []) (iNat x1) (0,0,0,0)).1) (bAnd (iEq (lGet (lGet x.1.2 (iNat x0) []) (iNat x1) (0,0,0,0)).2.1 (lGet (lGet x.2.2 (iNat x0) []) (iNat x1) (0,0,0,0)).2.1) (bAnd (iEq (lGet (lGet x.1.2 (iNat x0) []) (iNat x1) (0,0,0,0)).2.2.1 (lGet (lGet x.2.2 (iNat x0) []) (iNat x1) (0,0,0,0)).2.2.1) (iEq (lGet (lGet x.1.2 (iNat x0) []) (iNat x1) (0,0,0,0)).2.2.2 (lGet (lGet x.2.2 (iNat x0) []) (iNat x1) (0,0,0,0)).2.2.2)))))))) (fun(x1:Int)=>(iAdd .i64 x1 1)) 0) (lLen (lGet x.1.2 (iNat x0) []))))))) (fun(x0:Int)=>(iAdd .i64 x0 1)) 0) (lLen x.1.2)))):=(EW.v x).trans (by kernel_rfl)
theorem mx (x):O9 x=(((bOr (iNe x.1.1 x.2.1) (iNe (lLen x.1.2) (lLen x.2.2)))=true→True)∧((bOr (iNe x.1.1 x.2.1) (iNe (lLen x.1.2) (lLen x.2.2)))=false→(LoopOk (fun(x0:Int)=>(bAnd (iLt x0 (lLen x.1.2)) (bAnd (bNot (iNe (lLen (lGet x.1.2 (iNat x0) [])) (lLen (lGet x.2.2 (iNat x0) [])))) (bNot (iLt (Am (fun(x1:Int)=>(bAnd (iLt x1 (lLen (lGet x.1.2 (iNat x0) []))) (bNot (bNot (bAnd (iEq (lGet (lGet x.1.2 (iNat x0) []) (iNat x1) (0,0,0,0)).1 (lGet (lGet x.2.2 (iNat x0) []) (iNat x1) (0,0,0,0)).1) (bAnd (iEq (lGet (lGet x.1.2 (iNat x0) []) (iNat x1) (0,0,0,0)).2.1 (lGet (lGet x.2.2 (iNat x0) []) (iNat x1) (0,0,0,0)).2.1) (bAnd (iEq (lGet (lGet x.1.2 (iNat x0) []) (iNat x1) (0,0,0,0)).2.2.1 (lGet (lGet x.2.2 (iNat x0) []) (iNat x1) (0,0,0,0)).2.2.1) (iEq (lGet (lGet x.1.2 (iNat x0) []) (iNat x1) (0,0,0,0)).2.2.2 (lGet (lGet x.2.2 (iNat x0) []) (iNat x1) (0,0,0,0)).2.2.2)))))))) (fun(x1:Int)=>(iAdd .i64 x1 1)) 0) (lLen (lGet x.1.2 (iNat x0) []))))))) (fun(x0:Int)=>(iAdd .i64 x0 1)) (fun(x0:Int)=>(((iLt x0 (lLen x.1.2))=true→((((0:Int)≤x0)∧(x0<(((List.length x.1.2):Int))))∧(((iNat x0)<(List.length x.1.2))∧((((0:Int)≤x0)∧(x0<(((List.length x.2.2):Int))))∧(((iNat x0)<(List.length x.2.2))∧(((iNe (lLen (lGet x.1.2 (iNat x0) [])) (lLen (lGet x.2.2 (iNat x0) [])))=true→True)∧((iNe (lLen (lGet x.1.2 (iNat x0) [])) (lLen (lGet x.2.2 (iNat x0) [])))=false→(LoopOk (fun(x1:Int)=>(bAnd (iLt x1 (lLen (lGet x.1.2 (iNat x0) []))) (bNot (bNot (bAnd (iEq (lGet (lGet x.1.2 (iNat x0) []) (iNat x1) (0,0,0,0)).1 (lGet (lGet x.2.2 (iNat x0) []) (iNat x1) (0,0,0,0)).1) (bAnd (iEq (lGet (lGet x.1.2 (iNat x0) []) (iNat x1) (0,0,0,0)).2.1 (lGet (lGet x.2.2 (iNat x0) []) (iNat x1) (0,0,0,0)).2.1) (bAnd (iEq (lGet (lGet x.1.2 (iNat x0) []) (iNat x1) (0,0,0,0)).2.2.1 (lGet (lGet x.2.2 (iNat x0) []) (iNat x1) (0,0,0,0)).2.2.1) (iEq (lGet (lGet x.1.2 (iNat x0) []) (iNat x1) (0,0,0,0)).2.2.2 (lGet (lGet x.2.2 (iNat x0) []) (iNat x1) (0,0,0,0)).2.2.2)))))))) (fun(x1:Int)=>(iAdd .i64 x1 1)) (fun(x1:Int)=>((((0:Int)≤x0)∧(x0<(((List.length x.1.2):Int))))∧(((iNat x0)<(List.length x.1.2))∧(((iLt x1 (lLen (lGet x.1.2 (iNat x0) [])))=true→((((0:Int)≤x0)∧(x0<(((List.length x.1.2):Int))))∧(((iNat x0)<(List.length x.1.2))∧((((0:Int)≤x1)∧(x1<(((List.length (lGet x.1.2 (iNat x0) [])):Int))))∧(((iNat x1)<(List.length (lGet x.1.2 (iNat x0) [])))∧((((0:Int)≤x0)∧(x0<(((List.length x.2.2):Int))))∧(((iNat x0)<(List.length x.2.2))∧((((0:Int)≤x1)∧(x1<(((List.length (lGet x.2.2 (iNat x0) [])):Int))))∧((iNat x1)<(List.length (lGet x.2.2 (iNat x0) [])))))))))))∧((iLt x1 (lLen (lGet x.1.2 (iNat x0) [])))=false→True))))) 0))))))))∧((iLt x0 (lLen x.1.2))=false→True))) 0))):=(EW.o x).trans (by kernel_rfl)
theorem lL (x):R4 x=(bOr (Nv x) (bAnd (bNot (bOr (bNot (BL (Af (x,6,4)))) (bOr (bNot (Fj (Ds (Af (x,6,4)))).2) (bOr (bNot (FJ (Fk (Af (x,6,4)))).2) (bOr (bNot (G9 ((Fj (Ds (Af (x,6,4)))).1,(Af (x,6,4))))) (bNot (G9 ((FJ (Fk (Af (x,6,4)))).1,(Af (x,6,4)))))))))) (bSel (bNot (Bl ((Af (x,6,4)),(Av (x,7,(lLen (Af (x,6,4)).2))),(Av (x,8,(Af (x,6,4)).1)),(AP x))).2) (iGe (AP x).2.2.2 (lLen (Af (x,6,4)).2)) (bAnd (bNot (bOr (bNot (BL (Bl ((Af (x,6,4)),(Av (x,7,(lLen (Af (x,6,4)).2))),(Av (x,8,(Af (x,6,4)).1)),(AP x))).1)) (iNe (lLen (Bl ((Af (x,6,4)),(Av (x,7,(lLen (Af (x,6,4)).2))),(Av (x,8,(Af (x,6,4)).1)),(AP x))).1.2) (lLen (Af (x,6,4)).2)))) (bNot (iLt (Am (fun(x0:Int)=>(bAnd (iLt x0 (lLen (Af (x,6,4)).2)) (bNot (iLt (Am (fun(x1:Int)=>(bAnd (iLt x1 (Af (x,6,4)).1) (bSel (bAnd (iEq x0 (Av (x,7,(lLen (Af (x,6,4)).2)))) (iEq x1 (Av (x,8,(Af (x,6,4)).1)))) (bNot (bNot (bAnd (iEq (lGet (lGet (Bl ((Af (x,6,4)),(Av (x,7,(lLen (Af (x,6,4)).2))),(Av (x,8,(Af (x,6,4)).1)),(AP x))).1.2 (iNat x0) []) (iNat x1) (0,0,0,0)).1 (AP x).1) (bAnd (iEq (lGet (lGet (Bl ((Af (x,6,4)),(Av (x,7,(lLen (Af (x,6,4)).2))),(Av (x,8,(Af (x,6,4)).1)),(AP x))).1.2 (iNat x0) []) (iNat x1) (0,0,0,0)).2.1 (AP x).2.1) (bAnd (iEq (lGet (lGet (Bl ((Af (x,6,4)),(Av (x,7,(lLen (Af (x,6,4)).2))),(Av (x,8,(Af (x,6,4)).1)),(AP x))).1.2 (iNat x0) []) (iNat x1) (0,0,0,0)).2.2.1 (AP x).2.2.1) (iEq (lGet (lGet (Bl ((Af (x,6,4)),(Av (x,7,(lLen (Af (x,6,4)).2))),(Av (x,8,(Af (x,6,4)).1)),(AP x))).1.2 (iNat x0) []) (iNat x1) (0,0,0,0)).2.2.2 (AP x).2.2.2)))))) (bNot (bNot (bAnd (iEq (lGet (lGet (Bl ((Af (x,6,4)),(Av (x,7,(lLen (Af (x,6,4)).2))),(Av (x,8,(Af (x,6,4)).1)),(AP x))).1.2 (iNat x0) []) (iNat x1) (0,0,0,0)).1 (lGet (lGet (Af (x,6,4)).2 (iNat x0) []) (iNat x1) (0,0,0,0)).1) (bAnd (iEq (lGet (lGet (Bl ((Af (x,6,4)),(Av (x,7,(lLen (Af (x,6,4)).2))),(Av (x,8,(Af (x,6,4)).1)),(AP x))).1.2 (iNat x0) []) (iNat x1) (0,0,0,0)).2.1 (lGet (lGet (Af (x,6,4)).2 (iNat x0) []) (iNat x1) (0,0,0,0)).2.1) (bAnd (iEq (lGet (lGet (Bl ((Af (x,6,4)),(Av (x,7,(lLen (Af (x,6,4)).2))),(Av (x,8,(Af (x,6,4)).1)),(AP x))).1.2 (iNat x0) []) (iNat x1) (0,0,0,0)).2.2.1 (lGet (lGet (Af (x,6,4)).2 (iNat x0) []) (iNat x1) (0,0,0,0)).2.2.1) (iEq (lGet (lGet (Bl ((Af (x,6,4)),(Av (x,7,(lLen (Af (x,6,4)).2))),(Av (x,8,(Af (x,6,4)).1)),(AP x))).1.2 (iNat x0) []) (iNat x1) (0,0,0,0)).2.2.2 (lGet (lGet (Af (x,6,4)).2 (iNat x0) []) (iNat x1) (0,0,0,0)).2.2.2))))))))) (fun(x1:Int)=>(iAdd .i64 x1 1)) 0) (Af (x,6,4)).1)))) (fun(x0:Int)=>(iAdd .i64 x0 1)) 0) (lLen (Af (x,6,4)).2))))))):=(Gy.v x).trans (by kernel_rfl)
theorem lr (x):RR x=((SV x)∧(((Nv x)=true→True)∧((Nv x)=false→((RF (x,6,4))∧((MK (Af (x,6,4)))∧((RE (Ds (Af (x,6,4))))∧((OX (Af (x,6,4)))∧((OS (Fk (Af (x,6,4))))∧((RI x)∧((O0 (x,7,(lLen (Af (x,6,4)).2)))∧((O0 (x,8,(Af (x,6,4)).1))∧((O2 ((Af (x,6,4)),(Av (x,7,(lLen (Af (x,6,4)).2))),(Av (x,8,(Af (x,6,4)).1)),(AP x)))∧(((G5 (Af (x,6,4)))∧(((bNot (BL (Af (x,6,4))))=true→True)∧((bNot (BL (Af (x,6,4))))=false→(((bNot (Fj (Ds (Af (x,6,4)))).2)=true→True)∧((bNot (Fj (Ds (Af (x,6,4)))).2)=false→(((bNot (FJ (Fk (Af (x,6,4)))).2)=true→True)∧((bNot (FJ (Fk (Af (x,6,4)))).2)=false→((O9 ((Fj (Ds (Af (x,6,4)))).1,(Af (x,6,4))))∧(((bNot (G9 ((Fj (Ds (Af (x,6,4)))).1,(Af (x,6,4)))))=true→True)∧((bNot (G9 ((Fj (Ds (Af (x,6,4)))).1,(Af (x,6,4)))))=false→(O9 ((FJ (Fk (Af (x,6,4)))).1,(Af (x,6,4))))))))))))))∧(((bOr (bNot (BL (Af (x,6,4)))) (bOr (bNot (Fj (Ds (Af (x,6,4)))).2) (bOr (bNot (FJ (Fk (Af (x,6,4)))).2) (bOr (bNot (G9 ((Fj (Ds (Af (x,6,4)))).1,(Af (x,6,4))))) (bNot (G9 ((FJ (Fk (Af (x,6,4)))).1,(Af (x,6,4)))))))))=true→True)∧((bOr (bNot (BL (Af (x,6,4)))) (bOr (bNot (Fj (Ds (Af (x,6,4)))).2) (bOr (bNot (FJ (Fk (Af (x,6,4)))).2) (bOr (bNot (G9 ((Fj (Ds (Af (x,6,4)))).1,(Af (x,6,4))))) (bNot (G9 ((FJ (Fk (Af (x,6,4)))).1,(Af (x,6,4)))))))))=false→(((bNot (Bl ((Af (x,6,4)),(Av (x,7,(lLen (Af (x,6,4)).2))),(Av (x,8,(Af (x,6,4)).1)),(AP x))).2)=true→True)∧((bNot (Bl ((Af (x,6,4)),(Av (x,7,(lLen (Af (x,6,4)).2))),(Av (x,8,(Af (x,6,4)).1)),(AP x))).2)=false→((G5 (Bl ((Af (x,6,4)),(Av (x,7,(lLen (Af (x,6,4)).2))),(Av (x,8,(Af (x,6,4)).1)),(AP x))).1)∧(((bOr (bNot (BL (Bl ((Af (x,6,4)),(Av (x,7,(lLen (Af (x,6,4)).2))),(Av (x,8,(Af (x,6,4)).1)),(AP x))).1)) (iNe (lLen (Bl ((Af (x,6,4)),(Av (x,7,(lLen (Af (x,6,4)).2))),(Av (x,8,(Af (x,6,4)).1)),(AP x))).1.2) (lLen (Af (x,6,4)).2)))=true→True)∧((bOr (bNot (BL (Bl ((Af (x,6,4)),(Av (x,7,(lLen (Af (x,6,4)).2))),(Av (x,8,(Af (x,6,4)).1)),(AP x))).1)) (iNe (lLen (Bl ((Af (x,6,4)),(Av (x,7,(lLen (Af (x,6,4)).2))),(Av (x,8,(Af (x,6,4)).1)),(AP x))).1.2) (lLen (Af (x,6,4)).2)))=false→(LoopOk (fun(x0:Int)=>(bAnd (iLt x0 (lLen (Af (x,6,4)).2)) (bNot (iLt (Am (fun(x1:Int)=>(bAnd (iLt x1 (Af (x,6,4)).1) (bSel (bAnd (iEq x0 (Av (x,7,(lLen (Af (x,6,4)).2)))) (iEq x1 (Av (x,8,(Af (x,6,4)).1)))) (bNot (bNot (bAnd (iEq (lGet (lGet (Bl ((Af (x,6,4)),(Av (x,7,(lLen (Af (x,6,4)).2))),(Av (x,8,(Af (x,6,4)).1)),(AP x))).1.2 (iNat x0) []) (iNat x1) (0,0,0,0)).1 (AP x).1) (bAnd (iEq (lGet (lGet (Bl ((Af (x,6,4)),(Av (x,7,(lLen (Af (x,6,4)).2))),(Av (x,8,(Af (x,6,4)).1)),(AP x))).1.2 (iNat x0) []) (iNat x1) (0,0,0,0)).2.1 (AP x).2.1) (bAnd (iEq (lGet (lGet (Bl ((Af (x,6,4)),(Av (x,7,(lLen (Af (x,6,4)).2))),(Av (x,8,(Af (x,6,4)).1)),(AP x))).1.2 (iNat x0) []) (iNat x1) (0,0,0,0)).2.2.1 (AP x).2.2.1) (iEq (lGet (lGet (Bl ((Af (x,6,4)),(Av (x,7,(lLen (Af (x,6,4)).2))),(Av (x,8,(Af (x,6,4)).1)),(AP x))).1.2 (iNat x0) []) (iNat x1) (0,0,0,0)).2.2.2 (AP x).2.2.2)))))) (bNot (bNot (bAnd (iEq (lGet (lGet (Bl ((Af (x,6,4)),(Av (x,7,(lLen (Af (x,6,4)).2))),(Av (x,8,(Af (x,6,4)).1)),(AP x))).1.2 (iNat x0) []) (iNat x1) (0,0,0,0)).1 (lGet (lGet (Af (x,6,4)).2 (iNat x0) []) (iNat x1) (0,0,0,0)).1) (bAnd (iEq (lGet (lGet (Bl ((Af (x,6,4)),(Av (x,7,(lLen (Af (x,6,4)).2))),(Av (x,8,(Af (x,6,4)).1)),(AP x))).1.2 (iNat x0) []) (iNat x1) (0,0,0,0)).2.1 (lGet (lGet (Af (x,6,4)).2 (iNat x0) []) (iNat x1) (0,0,0,0)).2.1) (bAnd (iEq (lGet (lGet (Bl ((Af (x,6,4)),(Av (x,7,(lLen (Af (x,6,4)).2))),(Av (x,8,(Af (x,6,4)).1)),(AP x))).1.2 (iNat x0) []) (iNat x1) (0,0,0,0)).2.2.1 (lGet (lGet (Af (x,6,4)).2 (iNat x0) []) (iNat x1) (0,0,0,0)).2.2.1) (iEq (lGet (lGet (Bl ((Af (x,6,4)),(Av (x,7,(lLen (Af (x,6,4)).2))),(Av (x,8,(Af (x,6,4)).1)),(AP x))).1.2 (iNat x0) []) (iNat x1) (0,0,0,0)).2.2.2 (lGet (lGet (Af (x,6,4)).2 (iNat x0) []) (iNat x1) (0,0,0,0)).2.2.2))))))))) (fun(x1:Int)=>(iAdd .i64 x1 1)) 0) (Af (x,6,4)).1)))) (fun(x0:Int)=>(iAdd .i64 x0 1)) (fun(x0:Int)=>(((iLt x0 (lLen (Af (x,6,4)).2))=true→(LoopOk (fun(x1:Int)=>(bAnd (iLt x1 (Af (x,6,4)).1) (bSel (bAnd (iEq x0 (Av (x,7,(lLen (Af (x,6,4)).2)))) (iEq x1 (Av (x,8,(Af (x,6,4)).1)))) (bNot (bNot (bAnd (iEq (lGet (lGet (Bl ((Af (x,6,4)),(Av (x,7,(lLen (Af (x,6,4)).2))),(Av (x,8,(Af (x,6,4)).1)),(AP x))).1.2 (iNat x0) []) (iNat x1) (0,0,0,0)).1 (AP x).1) (bAnd (iEq (lGet (lGet (Bl ((Af (x,6,4)),(Av (x,7,(lLen (Af (x,6,4)).2))),(Av (x,8,(Af (x,6,4)).1)),(AP x))).1.2 (iNat x0) []) (iNat x1) (0,0,0,0)).2.1 (AP x).2.1) (bAnd (iEq (lGet (lGet (Bl ((Af (x,6,4)),(Av (x,7,(lLen (Af (x,6,4)).2))),(Av (x,8,(Af (x,6,4)).1)),(AP x))).1.2 (iNat x0) []) (iNat x1) (0,0,0,0)).2.2.1 (AP x).2.2.1) (iEq (lGet (lGet (Bl ((Af (x,6,4)),(Av (x,7,(lLen (Af (x,6,4)).2))),(Av (x,8,(Af (x,6,4)).1)),(AP x))).1.2 (iNat x0) []) (iNat x1) (0,0,0,0)).2.2.2 (AP x).2.2.2)))))) (bNot (bNot (bAnd (iEq (lGet (lGet (Bl ((Af (x,6,4)),(Av (x,7,(lLen (Af (x,6,4)).2))),(Av (x,8,(Af (x,6,4)).1)),(AP x))).1.2 (iNat x0) []) (iNat x1) (0,0,0,0)).1 (lGet (lGet (Af (x,6,4)).2 (iNat x0) []) (iNat x1) (0,0,0,0)).1) (bAnd (iEq (lGet (lGet (Bl ((Af (x,6,4)),(Av (x,7,(lLen (Af (x,6,4)).2))),(Av (x,8,(Af (x,6,4)).1)),(AP x))).1.2 (iNat x0) []) (iNat x1) (0,0,0,0)).2.1 (lGet (lGet (Af (x,6,4)).2 (iNat x0) []) (iNat x1) (0,0,0,0)).2.1) (bAnd (iEq (lGet (lGet (Bl ((Af (x,6,4)),(Av (x,7,(lLen (Af (x,6,4)).2))),(Av (x,8,(Af (x,6,4)).1)),(AP x))).1.2 (iNat x0) []) (iNat x1) (0,0,0,0)).2.2.1 (lGet (lGet (Af (x,6,4)).2 (iNat x0) []) (iNat x1) (0,0,0,0)).2.2.1) (iEq (lGet (lGet (Bl ((Af (x,6,4)),(Av (x,7,(lLen (Af (x,6,4)).2))),(Av (x,8,(Af (x,6,4)).1)),(AP x))).1.2 (iNat x0) []) (iNat x1) (0,0,0,0)).2.2.2 (lGet (lGet (Af (x,6,4)).2 (iNat x0) []) (iNat x1) (0,0,0,0)).2.2.2))))))))) (fun(x1:Int)=>(iAdd .i64 x1 1)) (fun(x1:Int)=>(((iLt x1 (Af (x,6,4)).1)=true→(((bAnd (iEq x0 (Av (x,7,(lLen (Af (x,6,4)).2)))) (iEq x1 (Av (x,8,(Af (x,6,4)).1))))=true→((((0:Int)≤x0)∧(x0<(((List.length (Bl ((Af (x,6,4)),(Av (x,7,(lLen (Af (x,6,4)).2))),(Av (x,8,(Af (x,6,4)).1)),(AP x))).1.2):Int))))∧(((iNat x0)<(List.length (Bl ((Af (x,6,4)),(Av (x,7,(lLen (Af (x,6,4)).2))),(Av (x,8,(Af (x,6,4)).1)),(AP x))).1.2))∧((((0:Int)≤x1)∧(x1<(((List.length (lGet (Bl ((Af (x,6,4)),(Av (x,7,(lLen (Af (x,6,4)).2))),(Av (x,8,(Af (x,6,4)).1)),(AP x))).1.2 (iNat x0) [])):Int))))∧((iNat x1)<(List.length (lGet (Bl ((Af (x,6,4)),(Av (x,7,(lLen (Af (x,6,4)).2))),(Av (x,8,(Af (x,6,4)).1)),(AP x))).1.2 (iNat x0) [])))))))∧((bAnd (iEq x0 (Av (x,7,(lLen (Af (x,6,4)).2)))) (iEq x1 (Av (x,8,(Af (x,6,4)).1))))=false→((((0:Int)≤x0)∧(x0<(((List.length (Bl ((Af (x,6,4)),(Av (x,7,(lLen (Af (x,6,4)).2))),(Av (x,8,(Af (x,6,4)).1)),(AP x))).1.2):Int))))∧(((iNat x0)<(List.length (Bl ((Af (x,6,4)),(Av (x,7,(lLen (Af (x,6,4)).2))),(Av (x,8,(Af (x,6,4)).1)),(AP x))).1.2))∧((((0:Int)≤x1)∧(x1<(((List.length (lGet (Bl ((Af (x,6,4)),(Av (x,7,(lLen (Af (x,6,4)).2))),(Av (x,8,(Af (x,6,4)).1)),(AP x))).1.2 (iNat x0) [])):Int))))∧(((iNat x1)<(List.length (lGet (Bl ((Af (x,6,4)),(Av (x,7,(lLen (Af (x,6,4)).2))),(Av (x,8,(Af (x,6,4)).1)),(AP x))).1.2 (iNat x0) [])))∧((((0:Int)≤x0)∧(x0<(((List.length (Af (x,6,4)).2):Int))))∧(((iNat x0)<(List.length (Af (x,6,4)).2))∧((((0:Int)≤x1)∧(x1<(((List.length (lGet (Af (x,6,4)).2 (iNat x0) [])):Int))))∧((iNat x1)<(List.length (lGet (Af (x,6,4)).2 (iNat x0) [])))))))))))))∧((iLt x1 (Af (x,6,4)).1)=false→True))) 0))∧((iLt x0 (lLen (Af (x,6,4)).2))=false→True))) 0))))))))))))))))))))):=(Gy.o x).trans (by kernel_rfl)
attribute [irreducible] Fj RE G9 O9 R4 RR
end
section
set_option maxRecDepth 20000
theorem rF{k:Int}{x:List (List (Int×Int×Int×Int))}(hm:MapOk k x):O9 ((k,x),(k,x))∧G9 ((k,x),(k,x))=true:=by
 have k2:=hm.k2;have l2:=hm.l2
 have eG:∀ i:Nat,lGet x (iNat (i:Int)) []=x.getD i []:=fun i=>by rw[A5,Ar,Ba]
 rw[mx,mw];refine⟨⟨fun _=>trivial,fun _=>?_⟩,?_⟩
 · refine L8 (fun st=>st) x.length (by omega) (fun st _ _ hc=>?_) (fun st=>rfl) (fun st h0 h1=>?_) (by simp) (by simp)
   · rw[Ay,Ap st,Aq,Ah,AA] at hc;exact hc.1
   · refine⟨fun hlt=>?_,fun _=>trivial⟩;rw[Ap,Aq,AA] at hlt;have hlt:st<(x.length:Int):=hlt
     have h3:iNat st<x.length:=by rw[Ar];omega
     have hl:((lGet x (iNat st) []).length:Int)=k:=by rw[A5,Ar];exact hm.row st.toNat (by omega)
     refine⟨⟨h0,hlt⟩,h3,⟨h0,hlt⟩,h3,fun _=>trivial,fun _=>?_⟩;refine L8 (fun st=>st) (lGet x (iNat st) []).length (by omega) (fun j _ _ hc=>?_) (fun st=>rfl) (fun j j0 j1=>?_) (by simp) (by simp)
     · rw[Ay,Ap j,Aq,Ah,AA] at hc;exact hc.1
     · refine⟨⟨h0,hlt⟩,h3,fun hj=>?_,fun _=>trivial⟩;rw[Ap,Aq,AA] at hj;have hj:j<((lGet x (iNat st) []).length:Int):=hj
       have h4:iNat j<(lGet x (iNat st) []).length:=by rw[Ar];omega
       exact⟨⟨h0,hlt⟩,h3,⟨j0,hj⟩,h4,⟨h0,hlt⟩,h3,⟨j0,hj⟩,h4⟩
 · rw[Nz (n:=x.length) (by omega) ?_ ?_ fun _=>rfl]
   · simp[Ay,AD,Bp,Ap,CX,Aq]
   · intro i hi;have hr:=hm.row i hi;rw[Nz (n:=(x.getD i []).length) (by omega) ?_ ?_ fun _=>rfl]
     · simp only[eG,Ay,AD,Ap,CX,Aq];simp;omega
     · intro j hj;simp only[eG,Ay,AD,Ap,Cy,Aq];rw[B5 (by omega:(j:Int)<((x.getD i []).length:Int))];simp
     · simp only[eG,Ay,Ap,Aq];simp
   · simp only[Ay,Ap,Aq];simp
def FF(x:List (List (Int×Int×Int×Int)))(i q:Int)(a:Int×Int×Int×Int):List (List (Int×Int×Int×Int)):=x.set i.toNat ((x.getD i.toNat []).set q.toNat a)
theorem nQ{k:Int}{x:List (List (Int×Int×Int×Int))}(hm:MapOk k x)(i q:Int)(a:Int×Int×Int×Int)(i0:0≤i)(i1:i<x.length)(q0:0≤q)(q1:q<k) :
 O2 ((k,x),i,q,a)∧Bl ((k,x),i,q,a)=if BL (k,FF x i q a)=true then ((k,FF x i q a),true) else ((0,[]),false):=by
 have hs:=Uw hm
 refine⟨(bq k x i q a hs).2.1,?_⟩
 have hr:=hm.row i.toNat (by omega)
 rw[ZT]
 simp only[(bh k x hs).2,LR hm]
 have e:bOr (bNot true) (bOr (iLt i 0) (bOr (iGe i (lLen x)) (bOr (iLt q 0) (iGe q k))))=false:=by
  simp only[Bp,AD,Ap,Cq,Aq];rw[B9 (by omega),B9 (by omega),B9 (by omega),B9 (by omega)];rfl
 have es:lSet x (iNat i) (lSet (lGet x (iNat i) []) (iNat q) a)=FF x i q a:=by rw[Jy,Jy,A5,Ar,Ar];rfl
 rw[e,es,AY,AQ,AD]
 cases BL (k,FF x i q a)<;>simp
theorem dY{α:Type}(f:α→List Int)(w:Nat)(l:List α)(h:∀ a∈l,(f a).length=w):(l.flatMap f).length=w*l.length:=by
 induction l with
 |nil=>rfl
 | cons a r ih=>
   rw[List.flatMap_cons,CA,h a (by simp),ih fun b hb=>h b (by simp[hb]),AG,Nat.mul_succ,Nat.add_comm]
theorem WD{α:Type}(f:α→List Int)(w:Nat)(r:List Int):∀ (l:List α),(∀ a∈l,(f a).length=w)→∀ j:Nat,j≤l.length→(l.flatMap f++r).drop (w*j)=(l.drop j).flatMap f++r
 |l,_,0,_=>rfl
 |[],_,j+1,h=>by simp at h
 | a::l,h,j+1,hj=>by
   have ha:=h a (by simp)
   rw[List.flatMap_cons,Nat.mul_succ,BH,Nat.add_comm,← List.drop_drop]
   rw[List.drop_left' ha]
   exact WD f w r l (fun b hb=>h b (by simp[hb])) j (by simpa using hj)
theorem Wj{a:Int×Int×Int×Int}(h:CV a=true):(Gx a).length=3:=by
 rw[OZ,AQ,h,AD,Ad (by simp)];rfl
theorem o9{k:Int}{x:List (List (Int×Int×Int×Int))}(hm:MapOk k x):OS (Ex k x)∧FJ (Ex k x)=((k,x),true):=by
 have k1:=hm.k1;have k2:=hm.k2;have l1:=hm.l1;have l2:=hm.l2;obtain⟨K,rfl⟩:∃ K:Nat,k=K:=⟨k.toNat,by omega⟩
 have hv:∀ r∈x,r.length=K∧∀ a∈r,CV a=true:=fun r hr=>by
  obtain⟨i,hi,rfl⟩:=List.mem_iff_getElem.1 hr;have:=T6 hm i hi;rw[BN,AF hi,Dy] at this;exact⟨by have:=this.1;omega,fun a ha=>(this.2 a ha).1⟩
 have hp:∀ r∈x,(GQ r).length=3*K:=fun r hr=>by
  unfold GQ;rw[dY _ 3 r fun a ha=>Wj ((hv r hr).2 a ha),(hv r hr).1]
 have hlen:(Ex (K:Int) x).length=2+3*K*x.length:=by
  unfold Ex;rw[CA,dY _ _ x hp];rfl
 have hK:3*K*x.length≤96*4:=Nat.mul_le_mul (by omega) (by omega);refine⟨(lW _ (oV hm) (by omega)).2.1,?_⟩
 have g0:iConv .i64 (lGet (Ex (K:Int) x) (iNat 0) 0)=K:=by
  have:lGet (Ex (K:Int) x) (iNat 0) 0=K:=by rw[A5,Ar];rfl
  rw[this,Ju (by omega) (by omega)]
 have g1:iConv .i64 (lGet (Ex (K:Int) x) (iNat 1) 0)=x.length:=by
  have:lGet (Ex (K:Int) x) (iNat 1) 0=x.length:=by rw[A5,Ar];rfl
  rw[this,Ju (by omega) (by omega)]
 have cell:∀ i:Nat,i<x.length→∀ j:Nat,j<K→HQ (((Ex (K:Int) x).drop (2+3*K*i+3*j)).take 3)=((x.getD i []).getD j (0,0,0,0),true):=by
  intro i hi j hj;have hmem:=Fq x i [] hi;obtain⟨r1,r2⟩:=hv _ hmem
  have d1:(Ex (K:Int) x).drop (2+3*K*i+3*j)=((x.getD i []).drop j).flatMap Gx++(x.drop (i+1)).flatMap GQ:=by
   rw[L3,← List.drop_drop]
   have:(Ex (K:Int) x).drop 2=x.flatMap GQ++[]:=by rw[Ir];rfl
   rw[this,← List.drop_drop,WD GQ (3*K) [] x hp i (by omega),Ir]
   have:x.drop i=x.getD i []::x.drop (i+1):=by
    rw[BN,AF hi,Dy];exact Mc hi
   rw[this,List.flatMap_cons];exact WD Gx 3 _ _ (fun a ha=>Wj (r2 a ha)) j (by omega)
  have hjl:j<(x.getD i []).length:=by omega
  have d2:(x.getD i []).drop j=(x.getD i []).getD j (0,0,0,0)::(x.getD i []).drop (j+1):=by
   rw[BN (l:=x.getD i []),AF hjl,Dy];exact Mc hjl
  have va:=r2 _ (Fq (x.getD i []) j (0,0,0,0) hjl);rw[d1,d2,List.flatMap_cons,BH,List.take_left' (Wj va)];exact(qG _ (by rw[Jh];exact va)).2
 generalize hb:Ex (K:Int) x=b at *
 have inner:∀ i:Nat,i<x.length→Am (FG b) (Gt b) (((2+3*K*i:Nat):Int),[],0)=(((2+3*K*(i+1):Nat):Int),x.getD i [],(K:Int)):=by
  intro i hi;have hmem:=Fq x i [] hi;obtain⟨r1,r2⟩:=hv _ hmem;have hKi:3*K*i≤96*4:=Nat.mul_le_mul (by omega) (by omega)
  have:=(Dn (c:=FG b) (f:=Gt b) (p:=fun _=>True) K (fun j=>(((2+3*K*i+3*j:Nat):Int),(x.getD i []).take j,(j:Int))) (x0:=(((2+3*K*i:Nat):Int),[],0)) (by simp) (fun j hj=>by
   have s3:iAdd .i64 ((2+3*K*i+3*j:Nat):Int) 3=((2+3*K*i+3*(j+1):Nat):Int):=by rw[Be (by unfold Ax;omega)];omega
   have s1:iAdd .i64 (j:Int) 1=((j+1:Nat):Int):=by rw[Be (by unfold Ax;omega)];omega
   have sub:lSub b (iNat ((2+3*K*i+3*j:Nat):Int)) (iNat ((2+3*K*i+3*(j+1):Nat):Int))=(b.drop (2+3*K*i+3*j)).take 3:=by
    rw[GD,Ar,Ar,Ba,Ba];congr 1;omega
   refine⟨trivial,?_,?_⟩
   · unfold FG;simp only[s3,sub,cell i hi j hj,g0];rw[Ay,AD,AD,Ap,B5 (by omega)];rfl
   · unfold Gt;simp only[s3,sub,cell i hi j hj,s1,Dq]
     rw[Jo _ (0,0,0,0) (by omega)]) ⟨trivial,by
   unfold FG;simp only[g0]
   rw[Ay,Ap,B9 (by omega)];rfl⟩).2
  rw[this]
  have e1:2+3*K*i+3*K=2+3*K*(i+1):=by rw[Nat.mul_succ];omega
  rw[e1,KE (by omega)]
 have outer:=(Dn (c:=Gs b) (f:=GZ b) (p:=fun _=>True) x.length (fun i=>(((2+3*K*i:Nat):Int),(i:Int),x.take i)) (x0:=(2,0,[])) (by simp) (fun i hi=>by
  have s1:iAdd .i64 (i:Int) 1=((i+1:Nat):Int):=by rw[Be (by unfold Ax;omega)];omega
  refine⟨trivial,?_,?_⟩
  · unfold Gs;simp only[inner i hi,g0,g1];rw[Ay,AD,Ap,Ap,B5 (by omega),B9 (by omega)];rfl
  · unfold GZ;simp only[inner i hi,s1,Dq]
    rw[Jo _ [] hi]) ⟨trivial,by
  unfold Gs;simp only[g1]
  rw[Ay,Ap,B9 (by omega)];rfl⟩).2
 rw[ZK,outer];simp only[g0,g1,Hu,LR hm]
 have e1:bOr (iLt (lLen b) 2) (iNe (lLen b) (iAdd .i64 2 (iMul .i64 (iMul .i64 3 (K:Int)) (x.length:Int))))=false:=by
  have m1:iMul .i64 3 (K:Int)=((3*K:Nat):Int):=by rw[Js (by unfold Ax;omega)];omega
  have m2:iMul .i64 ((3*K:Nat):Int) (x.length:Int)=((3*K*x.length:Nat):Int):=by
   have:((3*K:Nat):Int)*(x.length:Int)=((3*K*x.length:Nat):Int):=by rw[Int.natCast_mul (3*K)]
   rw[Js (by rw[this];unfold Ax;omega),this]
  rw[m1,m2,Be (by unfold Ax;omega),Aq,hlen,Bp,Ap,CX,B9 (by omega),B5 (by omega)];rfl
 have e2:iLt (x.length:Int) (x.length:Int)=false:=by rw[Ap,B9 (by omega)]
 rw[e1,e2,AD,E6,AY,AY,AY]
end
section
set_option maxRecDepth 20000
theorem TM {α:Type} {c:List (List UInt8)×Int→Bool} {f:List (List UInt8)×Int→List (List UInt8)×Int} {p:List (List UInt8)×Int→Prop} (l:List α) (d:α) (g:α→List UInt8) (hl:l.length≤1048576)
 (hc:∀ (s:List (List UInt8)) (i:Nat),i≤l.length→c (s,(i:Int))=decide (i<l.length)) (hf:∀ (s:List (List UInt8)) (i:Nat),i<l.length→f (s,(i:Int))=(lApp s [g (l.getD i d)],iAdd .i64 (i:Int) 1))
 (hp:∀ (s:List (List UInt8)) (i:Nat),s.length=i→i≤l.length→p (s,(i:Int))):LoopOk c f p ([],0)∧Am c f ([],0)=(l.map g,(l.length:Int)):=by
 have:=Dn (c:=c) (f:=f) (p:=p) l.length (fun k=>((l.take k).map g,(k:Int))) (x0:=([],0)) (by simp) (fun k hk=>by
  refine⟨hp _ k (by simp;omega) (by omega),by rw[hc _ k (by omega)];simpa using hk,?_⟩;rw[hf _ k hk,Dq,Be (by unfold Ax;omega),← Jo l d hk,F4]
  rfl) ⟨hp _ _ (by simp) (AO _),by rw[hc _ _ (AO _)];simp⟩
 refine⟨this.1,?_⟩
 rw[this.2,Hu]
def Cw(l:List (Int×Int×Int×Int)):List UInt8:=Bn (l.map A0) [32]
theorem js(l:List (Int×Int×Int×Int)):∀ w∈l.map A0,w.length+([32]:List UInt8).length≤21:=fun w hw=>by
 obtain⟨k,_,rfl⟩:=List.mem_map.1 hw
 have:=(HS k).2.2.2
 simp only[AG,AK];omega
theorem TN(l:List (Int×Int×Int×Int))(h:l.length≤32):(Cw l).length≤700:=by
 have h1:=PT [32] 21 _ (js l);rw[Bb] at h1;exact Cv h1 (Cv (Nat.mul_le_mul h (AO 21)) (by decide))
theorem TD(l:List (Int×Int×Int×Int))(h:l.length≤32):(M3 (l.map A0,[32])∧Lu (l.map A0,[32])=Cw l)∧MY (l.map A0,[32])∧Lt (l.map A0,[32])=Cw l:=by
 have wl:∀ w∈l.map A0,w.length+([32]:List UInt8).length≤100:=fun w hw=>Cv (js l w hw) (by decide)
 have ln:(l.map A0).length≤32:=by rw[Bb];exact h
 refine⟨eQ _ [32] (Cv ln (by decide)) wl,?_,?_⟩
 · rw[ZZ,VJ];exact⟨Cv ln (by decide),Cv (TN l h) (by decide)⟩
 · rw[Z5,VM];rfl
theorem kX(x:Int×List (List (Int×Int×Int×Int)))(h:EZ x):ZD x∧MK x∧Ds x=ZO x∧(BL x=true→Ds x=Bn (x.2.map Cw) [32,124,32]):=by
 obtain⟨k,x⟩:=x;obtain⟨s1,s2⟩:=Kg (k,x) h;rw[ZD,jV,ZO,jZ];have hsv:=SY (k,x)
 cases hv:BL (k,x) with
 | false=>
   rw[hv] at hsv
   have L1:=Dn (c:=Ld (k,x)) (f:=MJ (k,x)) (p:=OL (k,x)) 0 (fun _=>([],0)) (x0:=([],0)) rfl (fun k h=>by omega) (by
    simp only[Ld,OL,hsv,Ay,Bool.and_false]
    exact⟨⟨⟨fun _=>s1,fun _=>trivial⟩,fun h=>(by cases h),fun _=>trivial⟩,trivial⟩)
   obtain⟨j1,j2⟩:=eQ [] [32,124,32] (by simp) (by simp);rw[L1.2,AD];simp only[Bool.not_false,Bg,j2];exact⟨⟨L1.1,j1⟩,⟨s2,fun _=>trivial,fun h=>(by cases h)⟩,by first|rfl|trivial,by first|(intro h;cases h;done)|trivial|simp⟩
 | true=>
   rw[hv] at hsv;have M:=Wb h hv;have k1:=M.k1;have k2:=M.k2;have l2:=M.l2;have hrow:∀ i:Nat,i<x.length→((x.getD i []).length:Int)=k:=M.row
   have R1:∀ (s:List (List UInt8)) (i:Nat),i<x.length→LoopOk (Lc (k,x)) (Lb (k,x) (s,(i:Int))) (Vd (k,x) (s,(i:Int))) ([],0)∧Am (Lc (k,x)) (Lb (k,x) (s,(i:Int))) ([],0)=((x.getD i []).map A0,((x.getD i []).length:Int)):=fun s i hi=>by
    have hr:=hrow i hi;have gi:lGet x i []=x.getD i []:=A5 _ _ _;refine TM (x.getD i []) (0,0,0,0) A0 (by omega) (fun s j hj=>?_) (fun s j hj=>?_) (fun s j hs hj=>?_)
    · simp only[Lc,Ap];rw[← hr];simp
    · simp only[Lb,Ar,Ba,gi,A5]
    · simp only[Vd,Ar,Ba,gi,A5,Ap,AA,Br,AG,AK];exact⟨fun hlt=>⟨⟨by omega,by omega⟩,hi,⟨by omega,by omega⟩,by omega,(HS _).1,Jt (by omega)⟩,fun _=>trivial⟩
   have R2:∀ (s:List (List UInt8)) (i:Nat),i<x.length→LoopOk (K9 (k,x) (s,(i:Int))) (La (k,x) (s,(i:Int))) (Vf (k,x) (s,(i:Int))) ([],0)∧Am (K9 (k,x) (s,(i:Int))) (La (k,x) (s,(i:Int))) ([],0)=((x.getD i []).map A0,((x.getD i []).length:Int)):=fun s i hi=>by
    have hr:=hrow i hi;have gi:lGet x i []=x.getD i []:=A5 _ _ _;refine TM (x.getD i []) (0,0,0,0) A0 (by omega) (fun s j hj=>?_) (fun s j hj=>?_) (fun s j hs hj=>?_)
    · simp only[K9,Ap,Ar,Ba,gi,Aq];simp
    · simp only[La,Ar,Ba,gi,A5,(HS _).2.2.1]
    · simp only[Vf,Ar,Ba,gi,A5,Ap,Aq,AA,Br,AG,AK];exact⟨fun hlt=>⟨⟨by omega,by omega⟩,by omega,(HS _).2.1,Jt (by omega)⟩,fun _=>trivial⟩
   have rl:∀ i:Nat,i<x.length→(x.getD i []).length≤32:=fun i hi=>by have:=hrow i hi;omega
   have L1:=TM (c:=Ld (k,x)) (f:=MJ (k,x)) (p:=OL (k,x)) x [] Cw (by omega) (fun s i hi=>by
    simp only[Ld,hsv,Ay,KU,Ap,Aq];simp)
    (fun s i hi=>by simp only[MJ,(R1 s i hi).2,(TD _ (rl i hi)).1.2])
    (fun s i hs hi=>by
     simp only[OL,hsv,Ay,KU,Ap,Aq,AA,Br,AG,AK];refine⟨⟨fun _=>s1,fun _=>trivial⟩,fun hlt=>?_,fun _=>trivial⟩
     have hlt:i<x.length:=by omega
     rw[(R1 s i hlt).2]
     exact⟨(R1 s i hlt).1,(TD _ (rl i hlt)).1.1,Jt (by omega)⟩)
   have L2:=TM (c:=OM (k,x)) (f:=ON (k,x)) (p:=Ve (k,x)) x [] Cw (by omega) (fun s i hi=>by
    simp only[OM,Ap,Aq];simp)
    (fun s i hi=>by simp only[ON,(R2 s i hi).2,(TD _ (rl i hi)).2.2])
    (fun s i hs hi=>by
     simp only[Ve,Ap,Aq,Ar,Ba,AA,Br,AG,AK];refine⟨fun hlt=>?_,fun _=>trivial⟩
     have hlt:i<x.length:=by omega
     rw[(R2 s i hlt).2]
     exact⟨⟨by omega,by omega⟩,hlt,(R2 s i hlt).1,(TD _ (rl i hlt)).2.1,Jt (by omega)⟩)
   rw[L1.2,L2.2,AD];simp only[E6,AY]
   have wl:∀ w∈x.map Cw,w.length+([32,124,32]:List UInt8).length≤1000:=fun w hw=>by
    obtain⟨l,hl,rfl⟩:=List.mem_map.1 hw;obtain⟨i,hi,rfl⟩:=Oh hl;have:=rl i hi;rw[BN,AF hi] at this;have:=TN _ this;simp only[Dy] at this;simp only[AG,AK];omega
   have ln:(x.map Cw).length≤4:=by rw[Bb];exact l2
   obtain⟨j1,j2⟩:=dN (x.map Cw) [32,124,32] (Cv ln (by decide)) wl
   have jl:(Bn (x.map Cw) [32,124,32]).length≤4000:=
    Cv (PT [32,124,32] 1000 _ wl) (Nat.mul_le_mul ln (AO _))
   have j3:MY (x.map Cw,[32,124,32]):=by
    rw[ZZ,VJ];exact⟨Cv ln (by decide),Cv jl (by decide)⟩
   have j4:Lt (x.map Cw,[32,124,32])=Bn (x.map Cw) [32,124,32]:=by rw[Z5,VM]
   rw[j2,j4];exact⟨⟨L1.1,j1⟩,⟨s2,fun h=>(by cases h),fun _=>⟨L2.1,j3⟩⟩,rfl,fun _=>rfl⟩
end
section
set_option maxRecDepth 20000
theorem qq{s sep:List UInt8}(h:Lib.index s sep=-1):Lib.split s sep=[s]:=by
 unfold Lib.split;rw[Lib.count_miss h];rfl
theorem qA{s sep:List UInt8}{i:Nat}(hs:sep≠[])(h:Lib.index s sep=i):Lib.split s sep=s.take i::Lib.split (s.drop (i+sep.length)) sep:=by
 unfold Lib.split;rw[Lib.count_hit hs h,Nat.add_comm 1]
 have hm:¬ (Lib.index s sep == -1)=true:=fun e=>by have:=AW.1 e;omega
 rw[Lib.splitK,Ad hm,h];rfl
theorem fU(b:UInt8)(l:List UInt8)(h:l.head?≠some 124):([32,124,32]:List UInt8).isPrefixOf (b::l)=false:=by
 cases l with
 |nil=>simp[List.isPrefixOf]
 | cons c r=>
   have hc:c≠124:=fun e=>h (by rw[e];rfl)
   have:((124:UInt8) == c)=false:=by rw[Ib];exact fun e=>hc e.symm
   simp only[List.isPrefixOf,this,Ot,Bool.and_false]
theorem e8:∀ a:List UInt8,(124:UInt8) ∉ a→Lib.index a [32,124,32]=-1
 |[],_=>rfl
 | b::l,h=>by
   have hl:l.head?≠some 124:=fun e=>h (List.mem_cons_of_mem _ (List.mem_of_head? e))
   rw[Lib.index,fU b l hl,e8 l fun e=>h (List.mem_cons_of_mem _ e)]
   rfl
theorem iv:∀ (a t:List UInt8),(124:UInt8) ∉ a→Lib.index (a++([32,124,32]++t)) [32,124,32]=(a.length:Int)
 |[],t,_=>rfl
 | b :: l,t,h=>by
   have hl:(l++([32,124,32]++t)).head?≠some 124:=by
    cases l with
    |nil=>simp
    |cons c r=>exact fun e=>h (by rw[Cp,List.head?_cons] at e;cases e;simp)
   have i:=iv l t fun e=>h (List.mem_cons_of_mem _ e)
   rw[Cp,Lib.index,fU b _ hl,i,Ad (by simp),Ad (by intro e;have:=AW.1 e;omega)];simp
theorem bQ:∀ (l:List (List UInt8)),l≠[]→(∀ w∈l,(124:UInt8) ∉ w)→Lib.split (Bn l [32,124,32]) [32,124,32]=l
 |[],h,_=>absurd rfl h
 | [a],_,h=>by
   have e:Bn [a] [32,124,32]=a:=by simp[Bn,List.intercalate]
   rw[e];exact qq (e8 a (h a (by simp)))
 | a::c::r,_,h=>by
   have i:=bQ (c::r) (by simp) (fun w hw=>h w (by simp[hw]));rw[Ws _ _ _ (by simp),qA (by simp) (iv a _ (h a (by simp))),List.take_left' rfl];congr 1;rw[← List.drop_drop,List.drop_left' rfl];exact i
theorem dQ{b:UInt8}{sep:List UInt8}:∀ {l:List (List UInt8)},b∈Bn l sep→b∈sep∨∃ w∈l,b∈w
 |[],h=>by simp[Bn,List.intercalate] at h
 | [a],h=>by
   have e:Bn [a] sep=a:=by simp[Bn,List.intercalate]
   rw[e] at h;exact .inr ⟨a,by simp,h⟩
 | a :: c::r,h=>by
   rw[Ws _ _ _ (by simp),Ci,Ci] at h;rcases h with h|h|h
   · exact .inr ⟨a,by simp,h⟩
   · exact .inl h
   · rcases dQ h with h|⟨w,hw,h⟩
     · exact .inl h
     · exact .inr ⟨w,by simp[hw],h⟩
theorem m8{k:Int}{x:List (List (Int×Int×Int×Int))}(hm:MapOk k x) :
 MK (k,x)∧RE (Ds (k,x))∧Fj (Ds (k,x))=((k,x),true):=by
 have k1:=hm.k1
 have k2:=hm.k2
 have l1:=hm.l1
 have l2:=hm.l2
 have hs:=Uw hm
 obtain⟨f1,f2,f3,f4⟩:=kX (k,x) hs
 have f4:=f4 (LR hm)
 simp only at f4
 refine⟨f2,?_⟩
 have hv:∀ r∈x,(r.length:Int)=k∧∀ a∈r,B1 a=true:=fun r hr=>by
  obtain⟨i,hi,rfl⟩:=List.mem_iff_getElem.1 hr;have:=T6 hm i hi;rw[BN,AF hi,Dy] at this;exact⟨this.1,fun a ha=>by rw[Jh];exact(this.2 a ha).1⟩
 have no124:∀ w∈x.map Cw,(124:UInt8) ∉ w:=fun w hw=>by
  obtain⟨r,hr,rfl⟩:=List.mem_map.1 hw;intro h;rcases dQ h with h|⟨w,hw,h⟩
  · exact absurd h (by decide)
  · obtain⟨a,ha,rfl⟩:=List.mem_map.1 hw;exact iy a ((hv r hr).2 a ha) (by decide) h
 have slen:(Bn (x.map Cw) [32,124,32]).length≤4000:=by
  have wl:∀ w∈x.map Cw,w.length+([32,124,32]:List UInt8).length≤1000:=fun w hw=>by
   obtain⟨r,hr,rfl⟩:=List.mem_map.1 hw;have:=TN r (by have:=(hv r hr).1;omega);simp only[AG,AK];omega
  have ln:(x.map Cw).length≤4:=by rw[Bb];exact l2
  exact Cv (PT [32,124,32] 1000 _ wl) (Nat.mul_le_mul ln (AO _))
 have sp:BA (Bn (x.map Cw) [32,124,32],[(32:UInt8),124,32])=x.map Cw:=by
  rw[Vx];exact bQ _ (by intro e;rw[List.map_eq_nil_iff] at e;rw[e] at l1;simp at l1) no124
 rw[f4]
 generalize hS:Bn (x.map Cw) [32,124,32]=S at *
 have eR:∀ i:Nat,i<x.length→lGet (x.map Cw) (iNat (i:Int)) []=Cw (x.getD i []):=fun i hi=>by
  rw[A5,Ar,Ba,BN,Fz,AF hi,BN,AF hi];rfl
 have spl:∀ i:Nat,i<x.length→O3 (Cw (x.getD i []),32)∧DN (Cw (x.getD i []),32)=(x.getD i []).map A0:=fun i hi=>by
  obtain⟨r1,r2⟩:=hv _ (Fq x i [] hi);have hl:=TN (x.getD i []) (by omega);obtain⟨a1,a2⟩:=o6 (Cw (x.getD i [])) 32 (by omega);refine⟨a1,?_⟩;rw[a2]
  refine bC 32 _ (fun e=>?_) fun w hw=>?_
  · rw[List.map_eq_nil_iff] at e;rw[e] at r1;simp at r1;omega
  · obtain⟨a,ha,rfl⟩:=List.mem_map.1 hw;exact iy a (r2 a ha) (by decide)
 have inner:∀ i:Nat,i<x.length→∀ q:Int,LoopOk (Gv S ((i:Int),q,x.take i)) (G0 S ((i:Int),q,x.take i)) (OO S ((i:Int),q,x.take i)) ([],0) ∧
  Am (Gv S ((i:Int),q,x.take i)) (G0 S ((i:Int),q,x.take i)) ([],0)=(x.getD i [],k):=by
  intro i hi q
  obtain⟨r1,r2⟩:=hv _ (Fq x i [] hi)
  have eW:=(spl i hi).2
  have wl:lLen ((x.getD i []).map A0)=((x.getD i []).length:Int):=by rw[Aq,Bb]
  have tk:(x.take i).length=i:=by rw[L5];omega
  have:=Dn (c:=Gv S ((i:Int),q,x.take i)) (f:=G0 S ((i:Int),q,x.take i)) (p:=OO S ((i:Int),q,x.take i)) (x.getD i []).length (fun j=>((x.getD i []).take j,(j:Int))) (x0:=([],0)) (by simp) (fun j hj=>by
   have s1:iAdd .i64 (j:Int) 1=((j+1:Nat):Int):=by rw[Be (by unfold Ax;omega)];omega
   have va:=r2 _ (Fq (x.getD i []) j (0,0,0,0) hj)
   have eA:lGet ((x.getD i []).map A0) (iNat (j:Int)) []=A0 ((x.getD i []).getD j (0,0,0,0)):=by
    rw[A5,Ar,Ba,BN,Fz,AF hj,BN (l:=x.getD i []),AF hj];rfl
   obtain⟨p1,p2⟩:=lG _ va;rw[(HS _).2.2.1] at p1 p2
   have tj:((x.getD i []).take j).length=j:=by rw[L5];omega
   have nb:bOr (bNot true) (bOr (iGe (lLen ((x.getD i []).take j)) 32) (iGe (lLen (x.take i)) 4))=false:=by
    rw[Bp,Bp,AD,Cq,Cq,Aq,Aq,tj,tk,B9 (by omega),B9 (by omega)];rfl
   refine⟨?_,?_,?_⟩
   · unfold OO;simp only[sp,eR i hi,eW,eA,p2,nb];refine⟨fun _=>⟨⟨by omega,by rw[Bb];omega⟩,by rw[Ar,Bb];omega,p1,fun h=>(by cases h),fun _=>?_⟩,fun _=>trivial⟩;unfold AE;simp only[AG,AK,tj];omega
   · unfold Gv;simp only[sp,eR i hi,eW,eA,p2,nb,wl];rw[Ay,AD,Ap,B5 (by omega)];rfl
   · unfold G0;simp only[sp,eR i hi,eW,eA,p2,s1,Dq]
     rw[Jo _ (0,0,0,0) hj]) (by
   have e0:iLt ((x.getD i []).length:Int) ((x.getD i []).length:Int)=false:=by rw[Ap,B9 (by omega)]
   unfold OO Gv;simp only[sp,eR i hi,eW,wl,e0]
   exact⟨⟨fun h=>(by cases h),fun _=>trivial⟩,by rw[Ay];rfl⟩)
  refine⟨this.1,?_⟩
  rw[this.2,Hu,r1]
 have sl:lLen (x.map Cw)=(x.length:Int):=by rw[Aq,Bb]
 have outer:=Dn (c:=Fh S) (f:=FH S) (p:=Rq S) x.length (fun i=>((i:Int),(if i=0 then 0 else k),x.take i)) (x0:=(0,0,[])) (by simp) (fun i hi=>by
  have s1:iAdd .i64 (i:Int) 1=((i+1:Nat):Int):=by rw[Be (by unfold Ax;omega)];omega
  obtain⟨r1,r2⟩:=hv _ (Fq x i [] hi)
  have wl:lLen ((x.getD i []).map A0)=k:=by rw[Aq,Bb,r1]
  have e0:iLt k k=false:=by rw[Ap,B9 (by omega)]
  have tk:(x.take i).length=i:=by rw[L5];omega
  refine⟨?_,?_,?_⟩
  · unfold Rq;simp only[(inner i hi _).2,sp,eR i hi,(spl i hi).2,wl,e0];refine⟨fun _=>⟨⟨by omega,by rw[Bb];omega⟩,by rw[Ar,Bb];omega,(spl i hi).1,(inner i hi _).1,fun h=>(by cases h),fun _=>?_⟩,fun _=>trivial⟩;unfold AE;simp only[AG,AK,tk];omega
  · unfold Fh;simp only[(inner i hi _).2,sp,eR i hi,(spl i hi).2,wl,e0,sl];rw[Ay,AD,Ap,B5 (by omega)];rfl
  · unfold FH;simp only[(inner i hi _).2,s1,Dq,Aq,r1]
    rw[Jo _ [] hi,Ad (by omega)]) (by
  have e0:iLt (x.length:Int) (x.length:Int)=false:=by rw[Ap,B9 (by omega)]
  unfold Rq Fh;simp only[sp,sl,e0]
  exact⟨⟨fun h=>(by cases h),fun _=>trivial⟩,by rw[Ay];rfl⟩)
 have e0:iLt (x.length:Int) (x.length:Int)=false:=by rw[Ap,B9 (by omega)]
 have e1:bNot true=false:=by rw[AD];rfl
 have e2:bOr false (sNe S S)=false:=by rw[Bp,KM];simp
 rw[ke,kl,outer.2]
 simp only[Hu,Ad (show ¬ x.length=0 by omega),sp,sl,e0,LR hm,f4,e1,e2,AY]
 refine⟨⟨?_,outer.1,fun h=>(by cases h),fun _=>⟨(Kg (k,x) hs).2,fun h=>(by cases h),fun _=>f2⟩⟩,by first|rfl|trivial⟩
 rw[VF]
 exact⟨by simp only;omega,by simp⟩
end
section
set_option maxRecDepth 20000
theorem p8(x:List Int)(h:x.length≤1048576):RI x∧Mw (AP x):=by
 rw[kG,kW];obtain⟨a1,a2⟩:=WN x 3 h;obtain⟨b1,b2,b3,_⟩:=gp _ 4 a2 (by omega) (by omega);exact⟨⟨a1,b1⟩,b3⟩
theorem sG(x:List (List (Int×Int×Int×Int)))(i q:Int)(a:Int×Int×Int×Int):(FF x i q a).length=x.length:=by unfold FF;rw[List.length_set]
theorem ti{k:Int}{x:List (List (Int×Int×Int×Int))}(hm:MapOk k x)(I Q:Int)(a:Int×Int×Int×Int)(i0:0≤I)(i1:I<x.length)(q0:0≤Q)(q1:Q<k)(i:Nat)(hi:i<x.length) :
 (((FF x I Q a).getD i []).length:Int)=k∧∀ j:Nat,(j:Int)<k→((FF x I Q a).getD i []).getD j (0,0,0,0)=if (i:Int)=I∧(j:Int)=Q then a else (x.getD i []).getD j (0,0,0,0):=by
 have hr:=hm.row i hi
 unfold FF
 by_cases e:I.toNat=i
 · have hrow:(x.set I.toNat ((x.getD I.toNat []).set Q.toNat a)).getD i []=(x.getD i []).set Q.toNat a:=by
    rw[e,BN,Ev,Ab rfl,Ab hi];rfl
   rw[hrow];refine⟨by rw[List.length_set];exact hr,fun j hj=>?_⟩;rw[BN,Ev];by_cases e2:Q.toNat=j
   · rw[Ab e2,Ab (by omega),Ab (by omega)];rfl
   · rw[Ad e2,Ad (by omega),← BN]
 · have hrow:(x.set I.toNat ((x.getD I.toNat []).set Q.toNat a)).getD i []=x.getD i []:=by
    rw[BN,Ev,Ad e,← BN]
   rw[hrow];exact⟨hr,fun j _=>by rw[Ad (by omega)]⟩
theorem mB(x:List Int)(hw:TuX.wf Gy.h x):RR x∧R4 x=true:=by
 rw[lr,lL];obtain⟨b1,b2⟩:=vH x;by_cases hl:1048576<x.length
 · rw[b1,B5 hl];exact⟨⟨b2,fun _=>trivial,fun h=>by cases h⟩,by rw[Bp];rfl⟩
 rw[b1,B9 hl];obtain⟨m1,m2,m3⟩:=n6 x 6 4 (by omega) (by omega) (by omega);obtain⟨a1,a2⟩:=p8 x (by omega);generalize Af (x,6,4)=M at *;obtain⟨k,L⟩:=M;simp only at m2 m3;subst m3;have hl1:=m2.l1;have hl2:=m2.l2;have eL:lLen L=(L.length:Int):=Aq L;simp only[eL];obtain⟨n1,n2,n3⟩:=bl x 7 (L.length:Int) (by omega) (by omega);obtain⟨p1,p2,p3⟩:=bl x 8 4 (by omega) (by omega);generalize Av (x,7,(L.length:Int))=I at *;generalize Av (x,8,4)=Q at *;generalize AP x=A at *;have hs:=Uw m2;obtain⟨f1,f2,f3⟩:=m8 m2;obtain⟨g1,g2⟩:=ny m2;obtain⟨u1,u2⟩:=o9 m2;obtain⟨s1,s2⟩:=nQ m2 I Q A n2 n3 p2 p3;obtain⟨t1,t2⟩:=rF m2;have hk:=LR m2;have okk:=(Kg (4,L) hs).2;have sget:=ti m2 I Q A n2 n3 p2 p3;have slen:=sG L I Q A
 have sm2:BL (4,FF L I Q A)=true→EZ (4,FF L I Q A):=fun h=>by
  have h1:=bq 4 L I Q A hs;have h2:=h1.2.2.2;rw[← h1.2.2.1,s2,Ab h] at h2;exact h2
 have hN:BL (4,FF L I Q A)=false→(L.length:Int)≤A.2.2.2:=fun h=>by
  by_cases c:(L.length:Int)≤A.2.2.2
  · exact c
  · have hin:Zc (L.length:Int) (I.toNat:Int) A:=⟨a2.1,fun _=>a2.2,fun _=>by omega⟩;have hro:=fw (j:=Q.toNat) (T6 m2) (show I.toNat<L.length by omega) hin;have hmk:MapOk 4 (FF L I Q A):=Xf (by omega) (by omega) (by rw[slen];exact hl1) (by rw[slen];exact hl2) (by rw[slen];exact hro);rw[LR hmk] at h;cases h
 rw[f3,g2,u2,s2]
 have nt:bNot true=false:=by rw[AD];rfl
 have nf:bNot false=true:=by rw[AD];rfl
 have o5:bOr false (bOr false (bOr false (bOr false false)))=false:=by simp only[Bp];rfl
 generalize hY:FF L I Q A=Y at *;simp only[hk,t2,nt,nf,o5];have okg:=g1
 cases hb:BL (4,Y) with
 | false=>
   rw[hb] at hN;have hN:=hN rfl;simp only[AL,AX,nf];refine⟨⟨b2,fun h=>(by cases h),fun _=>⟨m1,f1,f2,g1,u1,a1,n1,p1,s1,⟨okk,fun h=>(by cases h),fun _=>⟨fun h=>(by cases h),fun _=>⟨fun h=>(by cases h),fun _=>⟨t1,fun h=>(by cases h),fun _=>t1⟩⟩⟩⟩,fun h=>(by cases h),fun _=>⟨fun _=>trivial,fun h=>(by cases h)⟩⟩⟩,?_⟩;rw[Bg,Cq,B5 hN];simp only[Bp,Ay];rfl
 | true=>
   have hsY:=sm2 hb;have okY:=(Kg (4,Y) hsY).2
   have eY:lLen Y=(L.length:Int):=by rw[Aq,slen]
   have eN:iNe (L.length:Int) (L.length:Int)=false:=by rw[CX];simp
   have o2:bOr false false=false:=by rw[Bp];rfl
   simp only[AN,hb,nt,eY,eN,o2]
   have gY:∀ i:Nat,lGet Y (iNat (i:Int)) []=Y.getD i []:=fun i=>by rw[A5,Ar,Ba]
   have gL:∀ i:Nat,lGet L (iNat (i:Int)) []=L.getD i []:=fun i=>by rw[A5,Ar,Ba]
   refine⟨⟨b2,fun h=>(by cases h),fun _=>⟨m1,f1,f2,g1,u1,a1,n1,p1,s1,⟨okk,fun h=>(by cases h),fun _=>⟨fun h=>(by cases h),fun _=>⟨fun h=>(by cases h),fun _=>⟨t1,fun h=>(by cases h),fun _=>t1⟩⟩⟩⟩,fun h=>(by cases h),fun _=>⟨fun _=>trivial,fun _=>⟨okY,fun h=>(by cases h),fun _=>?_⟩⟩⟩⟩,?_⟩
   · refine L8 (fun st=>st) L.length (by omega) (fun st _ _ hc=>?_) (fun st=>rfl) (fun st h0 h1=>?_) (by simp) (by simp)
     · rw[Ay,Ap st,Ah,AA] at hc;exact hc.1
     · refine⟨fun hlt=>?_,fun _=>trivial⟩;rw[Ap,AA] at hlt;have hlt:st<(L.length:Int):=hlt
       have h3:iNat st<L.length:=by rw[Ar];omega
       have h3':iNat st<Y.length:=by rw[slen];exact h3
       have hlt':st<(Y.length:Int):=by rw[slen];exact hlt
       have hlL:((lGet L (iNat st) []).length:Int)=4:=by rw[A5,Ar];exact m2.row st.toNat (by omega)
       have hlY:((lGet Y (iNat st) []).length:Int)=4:=by rw[A5,Ar];exact(sget st.toNat (by omega)).1
       refine L8 (fun st=>st) 4 (by omega) (fun j _ _ hc=>?_) (fun st=>rfl) (fun j j0 j1=>?_) (by simp) (by simp)
       · rw[Ay,Ap j,Ah,AA] at hc;exact hc.1
       · refine⟨fun hj=>?_,fun _=>trivial⟩;rw[Ap,AA] at hj;have hj:j<4:=hj
         have h4:iNat j<(lGet L (iNat st) []).length:=by rw[Ar];omega
         have h4':iNat j<(lGet Y (iNat st) []).length:=by rw[Ar];omega
         exact⟨fun _=>⟨⟨h0,hlt'⟩,h3',⟨j0,by omega⟩,h4'⟩,fun _=>⟨⟨h0,hlt'⟩,h3',⟨j0,by omega⟩,h4',⟨h0,hlt⟩,h3,⟨j0,by omega⟩,h4⟩⟩
   · rw[Nz (n:=L.length) (by omega) ?_ ?_ fun _=>rfl]
     · rw[AY]
       have:iLt (L.length:Int) (L.length:Int)=false:=by rw[Ap,B9 (by omega)]
       rw[this,nf];simp only[Bp,Ay];rfl
     · intro i hi;rw[show (4:Int)=((4:Nat):Int) from rfl,Nz (n:=4) (by omega) ?_ ?_ fun _=>rfl]
       · rw[Ay,AD,Ap,Ap,B5 (by omega),B9 (by omega)];rfl
       · intro j hj;have e:=(sget i hi).2 j (by omega)
         have c1:lGet (Y.getD i []) (iNat (j:Int)) (0,0,0,0)=(Y.getD i []).getD j (0,0,0,0):=by rw[A5,Ar,Ba]
         have c2:lGet (L.getD i []) (iNat (j:Int)) (0,0,0,0)=(L.getD i []).getD j (0,0,0,0):=by rw[A5,Ar,Ba]
         simp only[gY,gL,c1,c2,e];generalize (L.getD i []).getD j (0,0,0,0)=B
         have lt:iLt (j:Int) ((4:Nat):Int)=true:=by rw[Ap,B5 (by omega)]
         rw[lt,Ay,Ml,AQ];by_cases h:(i:Int)=I∧(j:Int)=Q
         · simp[h,Ay,AD,Cy]
         · simp only[Ad h,Ay,AD,Cy];simp;exact .inl (by omega)
       · rw[Ay,Ap,B9 (by omega)];rfl
     · rw[Ay,Ap,B9 (by omega)];rfl
end
end
end Go.Ag
