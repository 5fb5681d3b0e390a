/- Part 8 of what FnExactTapKeys needs. No conditions. -/
import Derived.Test.YtbkpfpcnjpggaaaGreatLibG
namespace Go.Ag
set_option linter.unusedSimpArgs false
set_option linter.unusedVariables false
noncomputable section
section
set_option maxRecDepth 20000
def Hm(a:DD)(k:Int):DD×Int:=((k,(IntKind.i64.wrap (k+1)),(IntKind.i64.wrap ((IntKind.i64.wrap (k+1))+1))),(IntKind.i64.wrap ((IntKind.i64.wrap ((IntKind.i64.wrap (k+1))+1))+1)))
theorem oP(x:Cn)(h:MY x)(m:Int)(h0:0<=m)(h1:m+3145728<=2305843009213693952):Vz x/\(m<=(GY x m).2/\(GY x m).2<=m+3145728)/\R9 ((GY x m).1,m)/\GZ ((GY x m).1,m)=(GY x m).2:=by
 have z:x.length<=1048576:=h.1;have C:Mp Hm x 3:=by
  intro a q k O N;have y:IntKind.i64.wrap (k+1)=k+1:=Da (by omega) (by omega);have u:IntKind.i64.wrap ((k+1)+1)=(k+1)+1:=Da (by omega) (by omega);have t:IntKind.i64.wrap (((k+1)+1)+1)=((k+1)+1)+1:=Da (by omega) (by omega);have G:(Hm a k).2=(((k+1)+1)+1):=(by simp only[Hm,y,u,t]);rw[G];omega
 have R:x.length*3<=3145728:=OM z (by decide);have D:=OX (m:=m) C h0 (by omega);have j:GY x m=AV Hm x m:=by unfold Hm;rw[ib];rfl
 rw[j];have s:=Ht Hm x m;have A:∀i,i<x.length->(AV Hm x m).1.getD i (0,0,0)=(Hm (x.getD i (0,0,0)) (A8 Hm x m i).2).1:=λi hi=>OG _ _ _ hi _;have I:Vz x:=by rw[uz];exact⟨CW h.1 (by decide),λa q=>⟨trivial,trivial,trivial⟩⟩
 rw[vJ,vH];dsimp only;generalize (AV Hm x m).1=L at s A ⊢;have b:a_ (λ(x0:Au)=>(W_ (b_ x0.2 (V' L)) (W_ (U' (j_ (So L (R_ x0.2) (0,0,0)).1 x0.1)) (W_ (U' (j_ (So L (R_ x0.2) (0,0,0)).2.1 (V_ .i64 x0.1 1))) (U' (j_ (So L (R_ x0.2) (0,0,0)).2.2 (V_ .i64 (V_ .i64 x0.1 1) 1))))))) (λ(x0:Au)=>((V_ .i64 (V_ .i64 (V_ .i64 x0.1 1) 1) 1),(V_ .i64 x0.2 1))) (λ(x0:Au)=>(((b_ x0.2 (V' L))=true->((((0:Int)<=x0.2)/\(x0.2<(((List.length L):Int))))/\(((R_ x0.2)<(List.length L))/\(((j_ (So L (R_ x0.2) (0,0,0)).1 x0.1)=true->True)/\((j_ (So L (R_ x0.2) (0,0,0)).1 x0.1)=false->((((0:Int)<=x0.2)/\(x0.2<(((List.length L):Int))))/\(((R_ x0.2)<(List.length L))/\(((j_ (So L (R_ x0.2) (0,0,0)).2.1 (V_ .i64 x0.1 1))=true->True)/\((j_ (So L (R_ x0.2) (0,0,0)).2.1 (V_ .i64 x0.1 1))=false->((((0:Int)<=x0.2)/\(x0.2<(((List.length L):Int))))/\((R_ x0.2)<(List.length L))))))))))))/\((b_ x0.2 (V' L))=false->True))) (m,0)/\Am (λ(x0:Au)=>(W_ (b_ x0.2 (V' L)) (W_ (U' (j_ (So L (R_ x0.2) (0,0,0)).1 x0.1)) (W_ (U' (j_ (So L (R_ x0.2) (0,0,0)).2.1 (V_ .i64 x0.1 1))) (U' (j_ (So L (R_ x0.2) (0,0,0)).2.2 (V_ .i64 (V_ .i64 x0.1 1) 1))))))) (λ(x0:Au)=>((V_ .i64 (V_ .i64 (V_ .i64 x0.1 1) 1) 1),(V_ .i64 x0.2 1))) (m,0)=((AV Hm x m).2,(x.length:Int)):=by
  refine QG z (0,0,0) (λi hi=>?_) ?_
  ·obtain⟨M,J⟩:=M3 (m:=m) C h0 (by omega) (0,0,0) i (by omega);have U:i*3+3<=x.length*3:=OH hi;have g:=A i hi;have F:(i:Int)<(L.length:Int):=(by omega);have n:i<L.length:=(by omega);have q:=Cd x i (0,0,0) hi;generalize (A8 Hm x m i).2=k at M J g ⊢;generalize x.getD i (0,0,0)=a at g q ⊢;have y:IntKind.i64.wrap (k+1)=k+1:=Da (by omega) (by omega);have u:IntKind.i64.wrap ((k+1)+1)=(k+1)+1:=Da (by omega) (by omega);have t:IntKind.i64.wrap (((k+1)+1)+1)=((k+1)+1)+1:=Da (by omega) (by omega);simp only[AJ,Aw,Al,AG,OK,OB,Bo,An,BF,OJ,AB,Ax,EP,g,Hm,y,u,t];simp[F,n]
  simp[An,Al,s,AB]
 refine⟨I,⟨D.1,by omega⟩,b.1,?_⟩;simp only[b.2];simp[BM,An,Al,s]
def Hi(a:Cn)(k:Int):Cn×Int:=((GY a k).1,(GY a k).2)
theorem ZgK(x:CJ)(h:Hh x)(m:Int)(h0:0<=m)(h1:m+3298534883328<=2305843009213693952):Vh x/\(m<=(Gn x m).2/\(Gn x m).2<=m+3298534883328)/\Vu ((Gn x m).1,m)/\KN ((Gn x m).1,m)=(Gn x m).2:=by
 have u:x.length<=1048576:=h.1;have z:Mp Hi x 3145728:=by
  intro a b k N M;obtain⟨_,⟨p0,C⟩,y0,n⟩:=oP a (h.2 a b) k (by omega) (by omega);have t0:¬(GY a k).2<0:=(by omega);have F:(Hi a k).2=(GY a k).2:=(by simp only[Hi]);rw[F];omega
 have O:x.length*3145728<=3298534883328:=OM u (by decide);have A:=OX (m:=m) z h0 (by omega);have q:Gn x m=AV Hi x m:=by unfold Hi;rw[gK,ib];rfl
 rw[q];have t:=Ht Hi x m;have y:∀i,i<x.length->(AV Hi x m).1.getD i []=(Hi (x.getD i []) (A8 Hi x m i).2).1:=λi hi=>OG _ _ _ hi _;have G:Vh x:=by rw[tQ];exact⟨CW h.1 (by decide),λa b=>⟨CW (h.2 a b).1 (by decide),λa b=>⟨trivial,trivial,trivial⟩⟩⟩
 rw[uX,vg];dsimp only;generalize (AV Hi x m).1=L at t y ⊢;have j:a_ (λ(x0:Au)=>(W_ (b_ x0.2 (V' L)) (U' (b_ (GZ ((So L (R_ x0.2) []),x0.1)) 0)))) (λ(x0:Au)=>((GZ ((So L (R_ x0.2) []),x0.1)),(V_ .i64 x0.2 1))) (λ(x0:Au)=>(((b_ x0.2 (V' L))=true->((((0:Int)<=x0.2)/\(x0.2<(((List.length L):Int))))/\(((R_ x0.2)<(List.length L))/\(R9 ((So L (R_ x0.2) []),x0.1)))))/\((b_ x0.2 (V' L))=false->True))) (m,0)/\Am (λ(x0:Au)=>(W_ (b_ x0.2 (V' L)) (U' (b_ (GZ ((So L (R_ x0.2) []),x0.1)) 0)))) (λ(x0:Au)=>((GZ ((So L (R_ x0.2) []),x0.1)),(V_ .i64 x0.2 1))) (m,0)=((AV Hi x m).2,(x.length:Int)):=by
  refine QG u [] (λi hi=>?_) ?_
  ·obtain⟨J,I⟩:=M3 (m:=m) z h0 (by omega) [] i (by omega);have R:i*3145728+3145728<=x.length*3145728:=OH hi;have g:=y i hi;have D:(i:Int)<(L.length:Int):=(by omega);have s:i<L.length:=(by omega);have b:=Cd x i [] hi;generalize (A8 Hi x m i).2=k at J I g ⊢;generalize x.getD i []=a at g b ⊢;obtain⟨_,⟨p0,C⟩,y0,n⟩:=oP a (h.2 a b) k (by omega) (by omega);have t0:¬(GY a k).2<0:=(by omega);simp only[AJ,Aw,Al,AG,OK,OB,Bo,An,BF,OJ,AB,Ax,EP,g,Hi,y0,n,t0];simp[D,s,y0,n,t0]
  simp[An,Al,t,AB]
 refine⟨G,⟨A.1,by omega⟩,j.1,?_⟩;simp only[j.2];simp[BM,An,Al,t]
def Hp(a:Dk)(k:Int):Dk×Int:=((k,(IntKind.i64.wrap (k+1)),(IntKind.i64.wrap ((IntKind.i64.wrap (k+1))+1)),(IntKind.i64.wrap ((IntKind.i64.wrap ((IntKind.i64.wrap (k+1))+1))+1)),(IntKind.i64.wrap ((IntKind.i64.wrap ((IntKind.i64.wrap ((IntKind.i64.wrap (k+1))+1))+1))+1))),(IntKind.i64.wrap ((IntKind.i64.wrap ((IntKind.i64.wrap ((IntKind.i64.wrap ((IntKind.i64.wrap (k+1))+1))+1))+1))+1)))
theorem ZgT(x:Bj)(h:Ho x)(m:Int)(h0:0<=m)(h1:m+5242880<=2305843009213693952):Vl x/\(m<=(II x m).2/\(II x m).2<=m+5242880)/\VF ((II x m).1,m)/\Sp ((II x m).1,m)=(II x m).2:=by
 have C:x.length<=1048576:=h.1;have F:Mp Hp x 5:=by
  intro a q k U R;have A:IntKind.i64.wrap (k+1)=k+1:=Da (by omega) (by omega);have z:IntKind.i64.wrap ((k+1)+1)=(k+1)+1:=Da (by omega) (by omega);have y:IntKind.i64.wrap (((k+1)+1)+1)=((k+1)+1)+1:=Da (by omega) (by omega);have u:IntKind.i64.wrap ((((k+1)+1)+1)+1)=(((k+1)+1)+1)+1:=Da (by omega) (by omega);have t:IntKind.i64.wrap (((((k+1)+1)+1)+1)+1)=((((k+1)+1)+1)+1)+1:=Da (by omega) (by omega);have J:(Hp a k).2=(((((k+1)+1)+1)+1)+1):=(by simp only[Hp,A,z,y,u,t]);rw[J];omega
 have Y:x.length*5<=5242880:=OM C (by decide);have G:=OX (m:=m) F h0 (by omega);have j:II x m=AV Hp x m:=by unfold Hp;rw[ic];rfl
 rw[j];have s:=Ht Hp x m;have D:∀i,i<x.length->(AV Hp x m).1.getD i (0,0,0,0,0)=(Hp (x.getD i (0,0,0,0,0)) (A8 Hp x m i).2).1:=λi hi=>OG _ _ _ hi _;have M:Vl x:=by rw[uY];exact⟨CW h.1 (by decide),λa q=>⟨trivial,trivial,trivial,trivial,trivial⟩⟩
 rw[vN,wK];dsimp only;generalize (AV Hp x m).1=L at s D ⊢;have b:a_ (λ(x0:Au)=>(W_ (b_ x0.2 (V' L)) (W_ (U' (j_ (So L (R_ x0.2) (0,0,0,0,0)).1 x0.1)) (W_ (U' (j_ (So L (R_ x0.2) (0,0,0,0,0)).2.1 (V_ .i64 x0.1 1))) (W_ (U' (j_ (So L (R_ x0.2) (0,0,0,0,0)).2.2.1 (V_ .i64 (V_ .i64 x0.1 1) 1))) (W_ (U' (j_ (So L (R_ x0.2) (0,0,0,0,0)).2.2.2.1 (V_ .i64 (V_ .i64 (V_ .i64 x0.1 1) 1) 1))) (U' (j_ (So L (R_ x0.2) (0,0,0,0,0)).2.2.2.2 (V_ .i64 (V_ .i64 (V_ .i64 (V_ .i64 x0.1 1) 1) 1) 1))))))))) (λ(x0:Au)=>((V_ .i64 (V_ .i64 (V_ .i64 (V_ .i64 (V_ .i64 x0.1 1) 1) 1) 1) 1),(V_ .i64 x0.2 1))) (λ(x0:Au)=>(((b_ x0.2 (V' L))=true->((((0:Int)<=x0.2)/\(x0.2<(((List.length L):Int))))/\(((R_ x0.2)<(List.length L))/\(((j_ (So L (R_ x0.2) (0,0,0,0,0)).1 x0.1)=true->True)/\((j_ (So L (R_ x0.2) (0,0,0,0,0)).1 x0.1)=false->((((0:Int)<=x0.2)/\(x0.2<(((List.length L):Int))))/\(((R_ x0.2)<(List.length L))/\(((j_ (So L (R_ x0.2) (0,0,0,0,0)).2.1 (V_ .i64 x0.1 1))=true->True)/\((j_ (So L (R_ x0.2) (0,0,0,0,0)).2.1 (V_ .i64 x0.1 1))=false->((((0:Int)<=x0.2)/\(x0.2<(((List.length L):Int))))/\(((R_ x0.2)<(List.length L))/\(((j_ (So L (R_ x0.2) (0,0,0,0,0)).2.2.1 (V_ .i64 (V_ .i64 x0.1 1) 1))=true->True)/\((j_ (So L (R_ x0.2) (0,0,0,0,0)).2.2.1 (V_ .i64 (V_ .i64 x0.1 1) 1))=false->((((0:Int)<=x0.2)/\(x0.2<(((List.length L):Int))))/\(((R_ x0.2)<(List.length L))/\(((j_ (So L (R_ x0.2) (0,0,0,0,0)).2.2.2.1 (V_ .i64 (V_ .i64 (V_ .i64 x0.1 1) 1) 1))=true->True)/\((j_ (So L (R_ x0.2) (0,0,0,0,0)).2.2.2.1 (V_ .i64 (V_ .i64 (V_ .i64 x0.1 1) 1) 1))=false->((((0:Int)<=x0.2)/\(x0.2<(((List.length L):Int))))/\((R_ x0.2)<(List.length L))))))))))))))))))))/\((b_ x0.2 (V' L))=false->True))) (m,0)/\Am (λ(x0:Au)=>(W_ (b_ x0.2 (V' L)) (W_ (U' (j_ (So L (R_ x0.2) (0,0,0,0,0)).1 x0.1)) (W_ (U' (j_ (So L (R_ x0.2) (0,0,0,0,0)).2.1 (V_ .i64 x0.1 1))) (W_ (U' (j_ (So L (R_ x0.2) (0,0,0,0,0)).2.2.1 (V_ .i64 (V_ .i64 x0.1 1) 1))) (W_ (U' (j_ (So L (R_ x0.2) (0,0,0,0,0)).2.2.2.1 (V_ .i64 (V_ .i64 (V_ .i64 x0.1 1) 1) 1))) (U' (j_ (So L (R_ x0.2) (0,0,0,0,0)).2.2.2.2 (V_ .i64 (V_ .i64 (V_ .i64 (V_ .i64 x0.1 1) 1) 1) 1))))))))) (λ(x0:Au)=>((V_ .i64 (V_ .i64 (V_ .i64 (V_ .i64 (V_ .i64 x0.1 1) 1) 1) 1) 1),(V_ .i64 x0.2 1))) (m,0)=((AV Hp x m).2,(x.length:Int)):=by
  refine QG C (0,0,0,0,0) (λi hi=>?_) ?_
  ·obtain⟨O,N⟩:=M3 (m:=m) F h0 (by omega) (0,0,0,0,0) i (by omega);have Z:i*5+5<=x.length*5:=OH hi;have g:=D i hi;have I:(i:Int)<(L.length:Int):=(by omega);have n:i<L.length:=(by omega);have q:=Cd x i (0,0,0,0,0) hi;generalize (A8 Hp x m i).2=k at O N g ⊢;generalize x.getD i (0,0,0,0,0)=a at g q ⊢;have A:IntKind.i64.wrap (k+1)=k+1:=Da (by omega) (by omega);have z:IntKind.i64.wrap ((k+1)+1)=(k+1)+1:=Da (by omega) (by omega);have y:IntKind.i64.wrap (((k+1)+1)+1)=((k+1)+1)+1:=Da (by omega) (by omega);have u:IntKind.i64.wrap ((((k+1)+1)+1)+1)=(((k+1)+1)+1)+1:=Da (by omega) (by omega);have t:IntKind.i64.wrap (((((k+1)+1)+1)+1)+1)=((((k+1)+1)+1)+1)+1:=Da (by omega) (by omega);simp only[AJ,Aw,Al,AG,OK,OB,Bo,An,BF,OJ,AB,Ax,EP,g,Hp,A,z,y,u,t];simp[I,n]
  simp[An,Al,s,AB]
 refine⟨M,⟨G.1,by omega⟩,b.1,?_⟩;simp only[b.2];simp[BM,An,Al,s]
theorem mQ(x:Bw)(h:Cg x)(m:Int)(h0:0<=m)(h1:m+7696586637312<=2305843009213693952):NQ x/\(m<=(AR x m).2/\(AR x m).2<=m+7696586637312)/\RR ((x.1,(AR x m).1.2.1,(AR x m).1.2.2.1,x.2.2.2.1,(AR x m).1.2.2.2.2.1,x.2.2.2.2.2),m)/\Eo ((x.1,(AR x m).1.2.1,(AR x m).1.2.2.1,x.2.2.2.1,(AR x m).1.2.2.2.2.1,x.2.2.2.2.2),m)=(AR x m).2:=by
 unfold Cg at h;obtain⟨G,⟨p0,z⟩,y0,j⟩:=Zf7 (x.1,x.2.1) h.1 m (by omega) (by omega);have t0:¬(EZ (x.1,x.2.1) m).2<0:=by omega
 obtain⟨F,⟨C,y⟩,q,i⟩:=ZgK x.2.2.1 h.2.1 (EZ (x.1,x.2.1) m).2 (by omega) (by omega);have t1:¬(Gn x.2.2.1 (EZ (x.1,x.2.1) m).2).2<0:=by omega
 obtain⟨D,⟨A,u⟩,n,g⟩:=ZgT x.2.2.2.2.1 h.2.2.1 (Gn x.2.2.1 (EZ (x.1,x.2.1) m).2).2 (by omega) (by omega);have s:¬(II x.2.2.2.2.1 (Gn x.2.2.1 (EZ (x.1,x.2.1) m).2).2).2<0:=by omega
 have e:AR x m=((x.1,(EZ (x.1,x.2.1) m).1.2,(Gn x.2.2.1 (EZ (x.1,x.2.1) m).2).1,x.2.2.2.1,(II x.2.2.2.2.1 (Gn x.2.2.1 (EZ (x.1,x.2.1) m).2).2).1,x.2.2.2.2.2.1,x.2.2.2.2.2.2),(II x.2.2.2.2.1 (Gn x.2.2.1 (EZ (x.1,x.2.1) m).2).2).2):=by rw[gO,ic,gQ,gK];rfl
 have t:NQ x:=by rw[gN];exact⟨trivial,⟨CW h.1.1.1 (by decide),λa b=>⟨CW (h.1.1.2 a b).1 (by decide),λa b=>⟨trivial,trivial,trivial,trivial⟩⟩⟩,⟨CW h.2.1.1 (by decide),λa b=>⟨CW (h.2.1.2 a b).1 (by decide),λa b=>⟨trivial,trivial,trivial⟩⟩⟩,trivial,⟨CW h.2.2.1.1 (by decide),λa b=>⟨trivial,trivial,trivial,trivial,trivial⟩⟩,trivial,trivial⟩
 rw[e];refine⟨t,⟨by simp only;omega,by simp only;omega⟩,?_,?_⟩
 ·rw[vl];simp[An,BM,y0,j,t0,q,i,t1,n,g,s]
 rw[uK];simp[An,BM,y0,j,t0,q,i,t1,n,g,s]
end
section
set_option maxRecDepth 20000
def me(x:BQ):Prop:=x.length<=1048576/\∀a∈x,Xz a
end
theorem kz(x:Ph):PY x=Gp x:=by
 rw[uu,ig,iV];generalize U' (b_ (Am _ _ _) _)=L;simp only[AB,Ax,Bd,Bo,BF];by_cases h:x.1.1=x.2.1<;>simp[h]
theorem WJ(a b:BH)(h:a.2.length<=1048576):Vo (a,b)/\NW (a,b):=by
 obtain⟨m,a⟩:=a;obtain⟨n,b⟩:=b;rw[vk,vr,yM];have h:a.length<=1048576:=h;have j:∀ {c:Int->Bool} {f:Int->Int} {p:Int->Prop},(∀st,c st=true->st<a.length)->(∀st,f st=V_ .i64 st 1)->(∀st:Int,0<=st->st<=a.length->p st)->a_ c f p 0:=λg s hp=>
  Ke (λst=>st) a.length (by omega) (λst _ _ h=>g st h) s hp (by simp) (by simp)
 have q:∀ {st:Int} {t:Bool},W_ (b_ st (V' a)) t=true->st<a.length:=λ{st t} h=>by
  rw[AB,An,Al,Aj,Ay]at h;exact h.1
 have pp:a.length=b.length->∀st:Int,0<=st->b_ st (V' a)=true->(((0:Int)<=st/\st<(a.length:Int))/\R_ st<a.length/\((0:Int)<=st/\st<(b.length:Int))/\R_ st<b.length):=λu st h0 h1=>by
  rw[An,Al,Ay]at h1;rw[Aw];omega
 refine⟨⟨λ_=>trivial,λi=>?_⟩,λ_=>⟨λ_=>trivial,λi=>?_⟩,λ_=>trivial⟩
 ·simp only[Bd,Bo,Al,Cl,B7,Ay]at i;exact j (λst g=>q g) (λ_=>rfl) (λst h0 h1=>⟨pp (by omega) st h0,λ_=>trivial⟩)
 simp only[Bo,Al,B7,Ay]at i;exact j (λst g=>q g) (λ_=>rfl) (λst h0 h1=>⟨pp (by omega) st h0,λ_=>trivial⟩)
theorem Om(x:CF):Ej x=Cc x:=by
 simp only[yd,Se,aV,Wy,Wn,ay,Ax,AB,Bd,EP,BM,BF,Bo,An,Ff,DH,CY,qv,qD,Al,Iw,AJ,GF,Jm,XP,BL,dW,Aw,qb];rw[Kh];repeat' split
 all_goals simp only[Aj,Ce,Br,B7,Gf,Cl,Ay,Bn,GI,JG,Bb,Ka]at *
 all_goals omega
theorem Vv(x:CF):N5 x:=by
 have h:∀y,Ek y:=λy=>by rw[Qy];trivial
 rw[xV];simp[h]
theorem RW(x:CF):N8 x:=by
 have h1:∀y,Qp y:=λy=>by rw[ZaL];trivial
 have g:∀y,Oa y:=λy=>by rw[Zbm];trivial
 have b:∀y,Sz y:=λy=>by rw[zg];trivial
 rw[yI];simp[h1,g,b]
theorem Hs(a b c:Int):BU (a,b,c)=(decide (b<=a)&&decide (a<=c)):=by rw[aV];simp only[AB,CY,Ff]
theorem Q5 (x):Ek x:=by rw[Qy];trivial
theorem bt (x):PW x:=by rw[vL];exact Vv _
theorem QF(x:Bj):EM x=CC x:=by
 rw[ZbS,Wo];have:∀ {c c':Int×Int->Bool} {f:Int×Int->Int×Int} {a:Int×Int} {n:Int},(∀x,c x=c' x)->U' (b_ (Am c f a).2 n)=U' (b_ (Am c' f a).2 n):=by
  intro c c' f a n h;rw[funext h]
 apply this;intro st;rw[Kh];simp only[ZM,Om,Hs,W1,Ax,AB,Bd,BF,An,DH,Aj,Ce,Br,B7,Gf,Cl,Ay,Bn,GI,JG,Bb,Ka];generalize Cc _=A;cases A<;>simp<;>omega
theorem VM(x:Bj)(h:x.length<=1048576):Oe x:=by
 rw[ZbW];refine Ke (λst=>st.2) x.length (by omega) (λst _ _ g=>?_) (λst=>rfl) (λst h0 h1=>?_) (by simp) (by simp)
 ·simp only[AB,An,Al,Aj,Ay]at g;exact g.1
 refine⟨λi=>?_,λ_=>trivial⟩;simp only[An,Al,Ay]at i;have j:st.2.toNat<x.length:=by omega
 simp only[Hs,Aw,j,h0,i,Q5,bt,Vv,GD,implies_true,Ib,Ax,Bd,Aj,Ce,Br,B7,Gf,Cl,Ay,Bn,GI,JG,Bb,Ka,B7,Cl];exact⟨λb=>b.1,λb=>b.1.1⟩
theorem V3(x:Bj)(h:x.length<=1048576):Oc x:=by
 rw[ZbC];refine Ke (λst=>st.2) x.length (by omega) (λst _ _ b=>?_) (λst=>rfl) (λst h0 h1=>?_) (by simp) (by simp)
 ·simp only[AB,An,Al,Aj,Ay]at b;exact b.1
 refine⟨λg=>?_,λ_=>trivial⟩;simp only[An,Al,Ay]at g;have n:st.2.toNat<x.length:=by omega
 simp only[lv,Aw,n,h0,g,RW,GD,implies_true,Ib,An,DH,Ax,Bd,Aj,Ce,Br,B7,Gf,Cl,Ay,Bn,GI,JG,Bb,Ka,B7,Cl];refine⟨λj i=>by omega,λj i=>by omega⟩
def YK(h:Dk):Prop:=0<=h.1/\h.1<=31/\Cc h.2=true/\h.2.1≠1/\h.2.1≠6/\h.2.1≠7
theorem Tg{x:List Dk}(I:x.length<=1048576)(h:CC x=true):∀a∈x,YK a:=by
 rw[Wo,Ax,Br,An _ (V' x),Bn]at h;have n:=Ot (c:=λx0:Int×Int=>(W_ (b_ x0.2 (V' x)) (W_ (U' (t8 (b_ (So x (R_ x0.2) (0,0,0,0,0)).1 0) (t8 (iGt (So x (R_ x0.2) (0,0,0,0,0)).1 31) (t8 (g_ (Eu (x0.1,(So x (R_ x0.2) (0,0,0,0,0)).1)) 1) (U' (Cc ((So x (R_ x0.2) (0,0,0,0,0)).2.1,(So x (R_ x0.2) (0,0,0,0,0)).2.2.1,(So x (R_ x0.2) (0,0,0,0,0)).2.2.2.1,(So x (R_ x0.2) (0,0,0,0,0)).2.2.2.2))))))) (U' (t8 (g_ (So x (R_ x0.2) (0,0,0,0,0)).2.1 1) (t8 (g_ (So x (R_ x0.2) (0,0,0,0,0)).2.1 6) (g_ (So x (R_ x0.2) (0,0,0,0,0)).2.1 7)))))))
  (f:=λx0=>((iOr .i64 x0.1 (iShl .i64 1 (So x (R_ x0.2) (0,0,0,0,0)).1)),(V_ .i64 x0.2 1)))
  (λst=>∃i:Nat,st.2=i/\i<=x.length/\∀j,j<i->YK (x.getD j (0,0,0,0,0))) (λst=>x.length-st.2.toNat) (λst A u=>?_) (x0:=(0,0)) ⟨0,rfl,Ec _,λj g=>by omega⟩
 ·obtain⟨⟨i,b,y,q⟩,_⟩:=n;rw[b,Al]at h;have:i=x.length:=(by omega);subst this;intro a z;obtain⟨j,g,rfl⟩:=Ik z;have:=q j g;rw[C0,Bc g]at this;exact this
 obtain⟨i,b,y,q⟩:=A;obtain⟨s,j⟩:=st;simp only at b;subst b;simp only[AB,Ax,Bd,An,DH,BF,Al,AJ,Aw,AG,Aj,Br,Cl,Ay,Bn,B7]at u;obtain⟨L,⟨c2,J,_,G⟩,F,D,C⟩:=u;refine⟨⟨i+1,?_,by omega,λj g=>?_⟩,?_⟩
 ·simp only;rw[B9 (by unfold Bl;omega)];omega
 ·by_cases t:j=i
  ·subst t;exact⟨by omega,by omega,G,F,D,C⟩
  exact q j (by omega)
 simp only;rw[B9 (by unfold Bl;omega)];omega
theorem kY{a:Int×Int×Int×Int}(h:Cc a=true)(b:a.1=3):a.2.1=0/\a.2.2.1=0/\1<=a.2.2.2/\a.2.2.2<=3:=by
 rw[Se]at h;simp only[ay,Wy,Wn,b,Ax,AB,Bd,EP,BM,BF,Bo,An,Ff,DH,CY,qv,qD,Al,Iw,AJ,GF,Jm,XP,BL,dW,Aw,qb]at h;simp at h;omega
theorem lC(f:Int)(x:Bj):SC (f,x)=E5 (f,x):=by
 rw[xZ,xx];have e:BU (f,0,15)=W_ (iGe f 0) (iLe f 15):=by rw[Hs,AB,CY,Ff]
 simp only[QF,e];cases h:CC x with
 | true=>
   rw[show U' true=false from by rw[Ax];rfl,CD];have:∀a:Bool,W_ a true=a:=λa=>(by rw[AB,Mb]);simp only[this]
 | false=>
   rw[show U' false=true from by rw[Ax];rfl,CK];rw[Ze7 (by rw[AB,Bool.and_false])]
theorem vm(f:Int)(x:Bj)(h:x.length<=1048576):VZ (f,x):=by
 rw[xO];refine⟨Q5 _,?_⟩;refine Ke (λst=>st.2) x.length (by omega) (λst _ _ g=>?_) (λst=>rfl) (λst h0 h1=>?_) (by simp) (by simp)
 ·simp only[AB,An,Al,Aj,Ay]at g;exact g.1
 refine⟨⟨λ_=>VM x h,λ_=>trivial⟩,λb=>?_,λ_=>trivial⟩;simp only[AB,An,Al,Aj,Ay,QF]at b;obtain⟨b,n⟩:=b;have i:st.2.toNat<x.length:=by omega
 simp only[Aw,AJ,i,h0,b,GD,implies_true,Ib,BF,Ay];intro j;have:=Tg h n _ (Cd x st.2.toNat (0,0,0,0,0) i);have:=kY this.2.2.1 j;omega
theorem vp(f:Int)(x:Bj)(h:x.length<=1048576):VP (f,x):=by
 rw[xH];refine⟨V3 x h,λ_=>trivial,λb=>?_⟩;have b:CC x=true:=by simpa [Ax]using b
 refine Ke (λst=>st.2) x.length (by omega) (λst _ _ g=>?_) (λst=>rfl) (λst h0 h1=>?_) (by simp) (by simp)
 ·simp only[An,Al,Ay]at g;exact g
 refine⟨λi=>?_,λ_=>trivial⟩;simp only[An,Al,Ay]at i;have j:st.2.toNat<x.length:=by omega
 simp only[Aw,AJ,j,h0,i,GD,implies_true,Ib,BF,Ay];intro n;have:=Tg h b _ (Cd x st.2.toNat (0,0,0,0,0) j);have:=kY this.2.2.1 n;omega
theorem XH {X Y:Type} {c:X->Bool} {f:X->X} {p:X->Prop} {d:Y->Bool} {g:Y->Y} {q:Y->Prop} (R:X->Y->Prop) (m:X->Nat)
 (h:∀x y,R x y->p x/\q y/\c x=d y/\(c x=true->R (f x) (g y)/\m (f x)<m x)) {x0:X} {y0:Y} (h0:R x0 y0):
 a_ c f p x0/\a_ d g q y0/\R (Am c f x0) (Am d g y0)/\c (Am c f x0)=false:=by
 have go:∀(n:Nat) (x:X) (y:Y),m x<n->R x y->∃u v,LoopTo c f p x u/\LoopTo d g q y v/\R u v/\c u=false:=by
  intro n;induction n with
  |zero=>intro x y hm;exact absurd hm (Pa _)
  | succ n ih=>
    intro x y hm z;obtain⟨h1,C,A,F⟩:=h x y z;cases b:c x with
    |false=>exact⟨x,y,.stop h1 b,.stop C (by rw[<- A];exact b),z,b⟩
    | true=>
      obtain⟨D,G⟩:=F b;obtain⟨u,v,i,j,t,s⟩:=ih _ _ (by omega) D;exact⟨u,v,.go h1 b i,.go C (by rw[<- A];exact b) j,t,s⟩
 obtain⟨u,v,i,j,t,s⟩:=go _ x0 y0 (Ua _) h0;exact⟨⟨_,i⟩,⟨_,j⟩,by rw[i.val,j.val];exact t,by rw[i.val];exact s⟩
theorem XT{X:Type}{c:X->Bool}{f:X->X}{p:X->Prop}(I:X->Prop)(m:X->Nat)(h:∀x,I x->p x/\(c x=true->I (f x)/\m (f x)<m x)){x0:X}(h0:I x0):a_ c f p x0/\I (Am c f x0)/\c (Am c f x0)=false:=MX I m h h0
theorem Zji{X:Type}{c:X->Bool}{f:X->X}{p:X->Prop}(n:Nat)(st:Nat->X)(t:Nat->Bool){x0:X}(h0:st 0=x0)(q:∀i,i<=n->(∀j,j<i->t j=true)->c (st i)=(decide (i<n)&&t i))(x:∀i,i<n->(∀j,j<=i->t j=true)->f (st i)=st (i+1))(hp:∀i,i<=n->(∀j,j<i->t j=true)->p (st i)):a_ c f p x0/\∃k,k<=n/\Am c f x0=st k/\(k=n↔∀i,i<n->t i=true):=by
 have s:=Jj (λi=>!t i) n 0;have b:∀j,j<C8 (λi=>!t i) n 0->t j=true:=λj g=>by
  have:=Th (λi=>!t i) n 0 j (by omega) g;simpa using this
 have:=H4 (c:=c) (f:=f) (p:=p) (C8 (λi=>!t i) n 0) st h0 (λk u=>by
  refine⟨hp k (by omega) (λj g=>b j (by omega)),?_,x k (by omega) (λj g=>b j (by omega))⟩;rw[q k (by omega) (λj g=>b j (by omega)),b k u];have:k<n:=(by omega);simp[this]) ⟨hp _ (by omega) b,by
  rw[q _ (by omega) b];by_cases h:C8 (λi=>!t i) n 0<n
  ·have:=Oq (λi=>!t i) n 0 (by omega);simp only[Br]at this;rw[this];simp
  simp[h]⟩
 refine⟨this.1,_,by omega,this.2,?_⟩;rw[Oj];simp
theorem J5{α:Type}(x:List α)(d:α){i:Nat}(h:i<x.length):x.take i++[x.getD i d]=x.take (i+1):=by
 rw[Yr,C0,Bc h];rfl
theorem cQ {α:Type} {c:Int×List α->Bool} {f:Int×List α->Int×List α} {p:Int×List α->Prop} (x:List α) (d:α) (n:x.length<=1048576)
 (g:∀(i:Nat) (l:List α),c ((i:Int),l)=decide (i<x.length)) (j:∀(i:Nat) (l:List α),i<x.length->f ((i:Int),l)=(V_ .i64 (i:Int) 1,l++[x.getD i d])) (hp:∀(i:Nat) (l:List α),i<=x.length->l.length=i->p ((i:Int),l)):
 a_ c f p (0,[])/\Am c f (0,[])=((x.length:Int),x):=by
 have:=H4 (c:=c) (f:=f) (p:=p) x.length (λi=>((i:Int),x.take i)) (x0:=(0,[])) rfl (λk b=>by
  refine⟨hp k _ (by omega) (by rw[C9];omega),by rw[g];simpa using b,?_⟩;rw[j k _ b,B9 (by unfold Bl;omega),J5 x d b];simp) ⟨hp _ _ (by omega) (by rw[C9];omega),by rw[g];simp⟩
 rw[F6]at this;exact this
theorem Zgq {α:Type} {c:List α×Int->Bool} {f:List α×Int->List α×Int} {p:List α×Int->Prop} (x:List α) (d:α) (n:x.length<=1048576)
 (g:∀(i:Nat) (l:List α),c (l,(i:Int))=decide (i<x.length)) (j:∀(i:Nat) (l:List α),i<x.length->f (l,(i:Int))=(l++[x.getD i d],V_ .i64 (i:Int) 1)) (hp:∀(i:Nat) (l:List α),i<=x.length->l.length=i->p (l,(i:Int))):
 a_ c f p ([],0)/\Am c f ([],0)=(x,(x.length:Int)):=by
 have:=H4 (c:=c) (f:=f) (p:=p) x.length (λi=>(x.take i,(i:Int))) (x0:=([],0)) rfl (λk b=>by
  refine⟨hp k _ (by omega) (by rw[C9];omega),by rw[g];simpa using b,?_⟩;rw[j k _ b,B9 (by unfold Bl;omega),J5 x d b];simp) ⟨hp _ _ (by omega) (by rw[C9];omega),by rw[g];simp⟩
 rw[F6]at this;exact this
theorem pA{a b:Nat}(i:a<9223372036854775808)(g:b<9223372036854775808):iAnd .i64 (a:Int) (b:Int)=((a &&& b:Nat):Int):=by
 have e:(BitVec.ofInt 64 (a:Int) &&& BitVec.ofInt 64 (b:Int)).toNat=a &&& b:=by
  rw[BitVec.ofInt_natCast,BitVec.ofInt_natCast,BitVec.toNat_and,BitVec.toNat_ofNat,BitVec.toNat_ofNat,Nat.mod_eq_of_lt (by omega),Nat.mod_eq_of_lt (by omega)]
 have h:a &&& b<=a:=Nat.and_le_left;rw[qp];show IntKind.i64.wrap ((BitVec.ofInt 64 (a:Int) &&& BitVec.ofInt 64 (b:Int)).toNat:Int)=_;rw[e];exact wrap_i64 (by unfold Bl;omega)
theorem YN{a b:Nat}(i:a<4611686018427387904)(g:b<4611686018427387904):iOr .i64 (a:Int) (b:Int)=((a ||| b:Nat):Int):=by
 have e:(BitVec.ofInt 64 (a:Int) ||| BitVec.ofInt 64 (b:Int)).toNat=a ||| b:=by
  rw[BitVec.ofInt_natCast,BitVec.ofInt_natCast,BitVec.toNat_or,BitVec.toNat_ofNat,BitVec.toNat_ofNat,Nat.mod_eq_of_lt (by omega),Nat.mod_eq_of_lt (by omega)]
 have h:a ||| b<2^62:=Nat.or_lt_two_pow (by omega) (by omega)
 rw[rZ];show IntKind.i64.wrap ((BitVec.ofInt 64 (a:Int) ||| BitVec.ofInt 64 (b:Int)).toNat:Int)=_;rw[e];exact wrap_i64 (by unfold Bl;omega)
theorem ZiB(a k:Nat)(h:k<=64):iShr .i64 (a:Int) (k:Int)=((a / 2^k:Nat):Int):=by
 rw[qX];show Int.fdiv (a:Int) (2^min (k:Int).toNat 64)=_;rw[AG,Nat.min_eq_left h,Int.fdiv_eq_ediv_of_nonneg _ (by exact_mod_cast Ec _)];norm_cast
theorem TU{a k:Nat}(b:k<=64)(h:a*2^k<9223372036854775808):iShl .i64 (a:Int) (k:Int)=((a*2^k:Nat):Int):=by
 rw[qO];show IntKind.i64.wrap ((a:Int)*2^min (k:Int).toNat 64)=_;rw[AG,Nat.min_eq_left b];have:((a:Int)*2^k)=((a*2^k:Nat):Int):=by norm_cast
 rw[this];exact wrap_i64 (by unfold Bl;omega)
def Bytes(x:BO):Prop:=∀a∈x,0<=a/\a<256
theorem Bytes.get{x:List Int}(h:Bytes x)(i:Nat):∃n:Nat,n<256/\x.getD i 0=(n:Int):=by
 by_cases hi:i<x.length
 ·obtain⟨h0,h1⟩:=h _ (Cd x i 0 hi);exact⟨(x.getD i 0).toNat,by omega,by omega⟩
 exact⟨0,by omega,by rw[C0,BR (by omega)];rfl⟩
theorem Bytes.of{x:List Int}(h:CT.wf (.sl (.one (.int .u8))) x):Bytes x:=by
 intro a b;have:=h.2 a b;simp only[RT.wf,CT.wf]at this;have h:IntKind.u8.min<=a/\a<=IntKind.u8.max:=by simpa [Lit.wf]using this
 have i:IntKind.u8.min=0:=by decide
 have g:IntKind.u8.max=255:=by decide
 rw[i,g]at h;omega
theorem Hq{α:Type}(x:List α)(d:α){i:Nat}(h:i<x.length):x.getD i d=x[i]:=by
 rw[C0,Bc h];rfl
abbrev CQ:=List Dk
theorem nM(m p:Nat)(hm:m<4611686018427387904)(hp:p<=64):Eu ((m:Int),(p:Int))=if m.testBit p then 1 else 0:=by
 rw[W1];simp only;rw[ZiB m p hp];have hd:m / 2^p<=m:=Nat.div_le_self _ _;have:=pA (a:=m / 2^p) (b:=1) (by omega) (by omega);rw[show ((1:Nat):Int)=1 from rfl]at this;rw[this,Nat.and_one_is_mod,Nat.testBit_eq_decide_div_mod_eq];simp only[Ay];split<;>omega
theorem Zgw{x:CQ}(hl:x.length<=1048576)(h:∀a∈x,YK a)(hd:x.Pairwise (λa b=>a.1≠b.1)):CC x=true:=by
 rw[Wo,Ax,Br];have s:=Ot (c:=λx0:Int×Int=>(W_ (b_ x0.2 (V' x)) (W_ (U' (t8 (b_ (So x (R_ x0.2) (0,0,0,0,0)).1 0) (t8 (iGt (So x (R_ x0.2) (0,0,0,0,0)).1 31) (t8 (g_ (Eu (x0.1,(So x (R_ x0.2) (0,0,0,0,0)).1)) 1) (U' (Cc ((So x (R_ x0.2) (0,0,0,0,0)).2.1,(So x (R_ x0.2) (0,0,0,0,0)).2.2.1,(So x (R_ x0.2) (0,0,0,0,0)).2.2.2.1,(So x (R_ x0.2) (0,0,0,0,0)).2.2.2.2))))))) (U' (t8 (g_ (So x (R_ x0.2) (0,0,0,0,0)).2.1 1) (t8 (g_ (So x (R_ x0.2) (0,0,0,0,0)).2.1 6) (g_ (So x (R_ x0.2) (0,0,0,0,0)).2.1 7)))))))
  (f:=λx0=>((iOr .i64 x0.1 (iShl .i64 1 (So x (R_ x0.2) (0,0,0,0,0)).1)),(V_ .i64 x0.2 1)))
  (λst=>∃i m:Nat,st=((m:Int),(i:Int))/\i<=x.length/\m<4294967296/\∀p:Nat,m.testBit p=true->∃j,j<i/\(x.getD j (0,0,0,0,0)).1=(p:Int)) (λst=>x.length-st.2.toNat) (λst N L=>?_) (x0:=(0,0)) ⟨0,0,rfl,Ec _,by omega,λp hp=>by simp at hp⟩
 ·obtain⟨⟨i,m,I,G,F,u⟩,t⟩:=s;rw[I]at t ⊢;rw[An,Al,Bn];intro M;have hi:i<x.length:=(by simpa using M);obtain⟨h1,h2,Z,U,R,O⟩:=h _ (Cd x i (0,0,0,0,0) hi);have z:Eu ((m:Int),(x.getD i (0,0,0,0,0)).1)≠1:=by
   obtain⟨p,hp⟩:=Int.eq_ofNat_of_zero_le h1;rw[hp,nM m p (by omega) (by omega)];split
   ·next z=>
    obtain⟨j,C,e⟩:=u p z;have:=List.pairwise_iff_getElem.1 hd j i (by omega) hi C;rw[<- Hq x (0,0,0,0,0) hi,<- Hq x (0,0,0,0,0) (by omega:j<x.length),e,hp]at this;exact absurd rfl this
   decide
  have A:Cc ((x.getD i (0,0,0,0,0)).2.1,(x.getD i (0,0,0,0,0)).2.2.1,(x.getD i (0,0,0,0,0)).2.2.2.1,(x.getD i (0,0,0,0,0)).2.2.2.2)=true:=Z;simp only[AB,Ax,Bd,An,DH,BF,Al,AJ,Aw,AG,A,z,U,R,O]at t;simp[-List.getD_eq_getElem?_getD]at t;omega
 obtain⟨i,m,rfl,G,F,u⟩:=N;simp only[AB,An,Al,Aj,Ay]at L;have hi:i<x.length:=by omega
 obtain⟨h1,h2,_⟩:=h _ (Cd x i (0,0,0,0,0) hi);obtain⟨p,hp⟩:=Int.eq_ofNat_of_zero_le h1;have J:p<32:=by omega
 have h2p:2^p<=2^31:=Nat.pow_le_pow_right (by omega) (by omega);have Y:(2:Nat)^31=2147483648:=by decide
 simp only[AJ,Aw,AG,hp];have D:=TU (a:=1) (k:=p) (by omega) (by omega);rw[show ((1:Nat):Int)=1 from rfl,FF]at D;rw[D,YN (a:=m) (b:=2^p) (by omega) (by omega)];refine⟨⟨i+1,m ||| 2^p,by rw[B9 (by unfold Bl;omega)];simp,by omega,?_,λq g=>?_⟩,by rw[B9 (by unfold Bl;omega)];omega⟩
 ·have:=Nat.or_lt_two_pow (x:=m) (y:=2^p) (n:=32) (by omega) (by omega);simpa using this
 rw[Nat.testBit_or,Ce]at g;rcases g with g|g
 ·obtain⟨j,C,e⟩:=u q g;exact⟨j,by omega,e⟩
 rw[Nat.testBit_two_pow]at g;have:p=q:=by simpa using g
 exact⟨i,by omega,by rw[hp,this]⟩
theorem Zfm{x:CQ}(O:x.length<=1048576)(h:CC x=true):x.Pairwise (λa b=>a.1≠b.1):=by
 have t:=Tg O h;rw[Wo,Ax,Br]at h;have z:=Ot (c:=λx0:Int×Int=>(W_ (b_ x0.2 (V' x)) (W_ (U' (t8 (b_ (So x (R_ x0.2) (0,0,0,0,0)).1 0) (t8 (iGt (So x (R_ x0.2) (0,0,0,0,0)).1 31) (t8 (g_ (Eu (x0.1,(So x (R_ x0.2) (0,0,0,0,0)).1)) 1) (U' (Cc ((So x (R_ x0.2) (0,0,0,0,0)).2.1,(So x (R_ x0.2) (0,0,0,0,0)).2.2.1,(So x (R_ x0.2) (0,0,0,0,0)).2.2.2.1,(So x (R_ x0.2) (0,0,0,0,0)).2.2.2.2))))))) (U' (t8 (g_ (So x (R_ x0.2) (0,0,0,0,0)).2.1 1) (t8 (g_ (So x (R_ x0.2) (0,0,0,0,0)).2.1 6) (g_ (So x (R_ x0.2) (0,0,0,0,0)).2.1 7)))))))
  (f:=λx0=>((iOr .i64 x0.1 (iShl .i64 1 (So x (R_ x0.2) (0,0,0,0,0)).1)),(V_ .i64 x0.2 1)))
  (λst=>∃i m:Nat,st=((m:Int),(i:Int))/\i<=x.length/\m<4294967296/\(∀j,j<i->∀p:Nat,(x.getD j (0,0,0,0,0)).1=(p:Int)->m.testBit p=true)/\∀j k,j<k->k<i->(x.getD j (0,0,0,0,0)).1≠(x.getD k (0,0,0,0,0)).1) (λst=>x.length-st.2.toNat) (λst R G=>?_) (x0:=(0,0)) ⟨0,0,rfl,Ec _,by omega,λj u=>absurd u (by omega),λj k _ s=>absurd s (by omega)⟩
 ·obtain⟨⟨i,m,M,L,J,C,A⟩,_⟩:=z;rw[M,An,Al,Bn]at h;simp only at h;have hi:i=x.length:=(by omega);subst hi;rw[List.pairwise_iff_getElem];intro j k u s g;have:=A j k g s;rwa [Hq x _ u,Hq x _ s]at this
 obtain⟨i,m,rfl,L,J,C,A⟩:=R;simp only[AB,An (i:Int),Al,Aj,Ay]at G;obtain⟨c1,c2,_⟩:=G;have hi:i<x.length:=by omega
 obtain⟨h1,Z,_⟩:=t _ (Cd x i (0,0,0,0,0) hi);obtain⟨p,hp⟩:=Int.eq_ofNat_of_zero_le h1;have N:p<32:=by omega
 have Y:2^p<=2^31:=Nat.pow_le_pow_right (by omega) (by omega);have U:(2:Nat)^31=2147483648:=by decide
 simp only[AJ,Aw,AG,hp,Ax,Bd,Br,Cl,BF,Bn]at c2;have D:m.testBit p=false:=by
  have:=c2.2.2.1;rw[nM m p (by omega) (by omega)]at this;cases D:m.testBit p with
  |false=>rfl
  |true=>rw[D]at this;exact absurd rfl this
 simp only[AJ,Aw,AG,hp];have I:=TU (a:=1) (k:=p) (by omega) (by omega);rw[show ((1:Nat):Int)=1 from rfl,FF]at I;rw[I,YN (a:=m) (b:=2^p) (by omega) (by omega)];refine⟨⟨i+1,m ||| 2^p,by rw[B9 (by unfold Bl;omega)];simp,by omega,?_,λj u q F=>?_,λj k g s=>?_⟩,by rw[B9 (by unfold Bl;omega)];omega⟩
 ·have:=Nat.or_lt_two_pow (x:=m) (y:=2^p) (n:=32) (by omega) (by omega);simpa using this
 ·rw[Nat.testBit_or,Ce];rcases Bz j i with h|h
  ·exact .inl (C j h q F)
  have:j=i:=(by omega);subst this;rw[hp]at F;have:p=q:=(by omega);right;rw[this,Nat.testBit_two_pow_self]
 rcases Bz k i with h|h
 ·exact A j k g h
 have:k=i:=by omega
 subst this;intro e;have:=C j g p (by rw[e];exact hp);rw[D]at this;cases this
theorem Tf{x:CQ}(g:x.length<=1048576):CC x=true↔(∀a∈x,YK a)/\x.Pairwise (λa b=>a.1≠b.1):=⟨λh=>⟨Tg g h,Zfm g h⟩,λh=>Zgw g h.1 h.2⟩
theorem cx{x:CQ}(s:x.length<=1048576)(h:CC x=true):x.length<=32:=by
 obtain⟨h1,u⟩:=(Tf s).1 h;have n:(x.map λa=>a.1.toNat).Nodup:=by
  rw[List.nodup_iff_pairwise_ne,List.pairwise_map];refine u.imp_of_mem λ{a b} g t i e=>i ?_;have:=(h1 a g).1;have:=(h1 b t).1;omega
 have hs:(x.map λa=>a.1.toNat) ⊆ List.range 32:=λq j=>by
  obtain⟨a,g,rfl⟩:=List.mem_map.1 j;have:=(h1 a g).1;have:=(h1 a g).2.1;rw[List.mem_range];omega
 have:=n.length_le_of_subset hs;simpa using this
theorem ZgC(k:Int)(x:Cz)(hs:DW (k,x)):WD (k,x)/\SX (k,x)=(k,x):=by
 rw[Zba,ZaS];obtain⟨g,b⟩:=cQ (c:=VL (k,x)) (f:=V6 (k,x)) (p:=ai (k,x)) x [] hs.1.1 (λi l=>by simp[VL,An,Al])
  (λi l _=>by simp[V6,BL,AJ,Aw]) (λi l hi j=>by
   simp only[ai,An,Al,Ay];refine⟨λh=>?_,λ_=>trivial⟩;have e:So x (R_ (i:Int)) []=x.getD i []:=(by rw[AJ,Aw,AG]);have h1:(x.getD i []).length<=1048576:=(hs.1.2 _ (Cd x i [] (by omega))).1;have n:x.length<=1048576:=hs.1.1;rw[e];refine⟨⟨by omega,h⟩,by rw[Aw];omega,by unfold AE;simp only[A7];omega,by unfold AE;simp only[A0,A7];omega⟩)
 exact⟨g,by rw[b]⟩
theorem Zco(k:Int)(x:Cz)(hs:DW (k,x)):RX (k,x)/\NY (k,x)=(k,x):=by
 rw[uf,uE];obtain⟨g,b⟩:=cQ (c:=Ve (k,x)) (f:=Vf (k,x)) (p:=Zz (k,x)) x [] hs.1.1 (λi l=>by simp[Ve,An,Al])
  (λi l _=>by simp[Vf,BL,AJ,Aw]) (λi l hi j=>by
   simp only[Zz,An,Al,Ay];refine⟨λh=>?_,λ_=>trivial⟩;have e:So x (R_ (i:Int)) []=x.getD i []:=(by rw[AJ,Aw,AG]);have h1:(x.getD i []).length<=1048576:=(hs.1.2 _ (Cd x i [] (by omega))).1;have n:x.length<=1048576:=hs.1.1;rw[e];refine⟨⟨by omega,h⟩,by rw[Aw];omega,by unfold AE;omega,by unfold AE;simp only[A0,A7];omega⟩)
 exact⟨g,by rw[b]⟩
theorem bg(x:Ca):G1 x=Ei x:=by
 rw[xd,Z6,Hs,Hs];have b:∀(i a n:Int) (A B:Bool),U' (t8 A (Z' (g_ a 1) (t8 (g_ i 0) B) B))=U' (t8 A (Z' (g_ i 0) (t8 (g_ a 1) B) B)):=by
  intro i a n A B;simp only[Ax,Bd,BM,BF];by_cases h1:a=1<;>by_cases g:i=0<;>simp[h1,g]
 simp only[Om,λi a A B=>b i a 0 A B];generalize U' (b_ (Am _ _ _) (V' x.2))=L;rw[Kh];simp only[AB,Ax,Bd,An,DH,Al,Aj,Ce,Br,B7,Gf,Cl,Ay,Bn,GI,JG,Bb,Ka];cases L<;>simp<;>omega
theorem kx(x:Ca)(h:DW x):Sl x/\Ss x:=by
 obtain⟨k,x⟩:=x;have h:Ji x:=h.1;rw[yN,yh];have s:∀i:Int,0<=i->i<x.length->(So x (R_ i) []).length<=1048576:=λi h0 hi=>by
  rw[AJ,Aw];exact(h.2 _ (Cd x i.toNat [] (by omega))).1
 refine⟨⟨?_,λ_=>trivial,λ_=>⟨Q5 _,λ_=>Q5 _,λ_=>trivial⟩⟩,λ_=>trivial,λ_=>?_⟩;all_goals
  refine Ke (λst=>st) x.length (by have:=h.1;omega) (λst _ _ q=>?_) (λst=>rfl) (λst h0 h1=>?_) (by simp) (by simp)
  ·rw[AB,An st,Al,Aj,Ay]at q;exact q.1
  refine⟨λn=>?_,λ_=>trivial⟩;rw[An,Al,Ay]at n;have n:st<(x.length:Int):=n;have t:R_ st<x.length:=(by rw[Aw];omega);have z:=s st h0 n;refine⟨⟨h0,n⟩,t,λ_=>trivial,λ_=>?_⟩;refine Ke (λst=>st) (So x (R_ st) []).length (by omega) (λj _ _ q=>?_) (λst=>rfl) (λj u y=>?_) (by simp) (by simp)
  ·rw[AB,An j,Al,Aj,Ay]at q;exact q.1
  have b:b_ j (V' (So x (R_ st) []))=true->j<((So x (R_ st) []).length:Int)/\R_ j<(So x (R_ st) []).length:=λg=>by
   rw[An,Al,Ay]at g;exact⟨g,by rw[Aw];omega⟩
  first
   |exact⟨⟨h0,n⟩,t,λg=>⟨⟨h0,n⟩,t,⟨u,(b g).1⟩,(b g).2,Vv _⟩,λ_=>trivial⟩
   |exact⟨λg=>⟨⟨u,(b g).1⟩,(b g).2,RW _⟩,λ_=>trivial⟩
theorem ZcV{k:Int}{x:List DA}(h:CT.wf (.sl (.one (.sl Az))) x):Xu (k,x):=by
 exact⟨⟨h.1,λl b=>⟨(h.2 l b).1,λa _=>by simp[Xp]⟩⟩,trivial⟩
structure MapOk (k:Int) (x:Cz):Prop where
 k1:1<=k
 k2:k<=32
 l1:1<=x.length
 l2:x.length<=4
 row:∀i:Nat,i<x.length->((x.getD i []).length:Int)=k
 act:∀i j:Nat,i<x.length->j<(x.getD i []).length->Cc ((x.getD i []).getD j (0,0,0,0))=true/\(i=0->((x.getD i []).getD j (0,0,0,0)).1≠1)/\(((x.getD i []).getD j (0,0,0,0)).1≠9->((x.getD i []).getD j (0,0,0,0)).2.2.2<x.length)
theorem G9{k:Int}{x:List DA}(hs:DW (k,x))(h:Ei (k,x)=true):MapOk k x:=by
 rw[Z6,AB,Aj]at h;obtain⟨h1,z⟩:=h;simp only[Ax,Bd,An,DH,Al,Aj,Ce,Br,B7,Gf,Cl,Ay,Bn,GI,JG,Bb,Ka]at h1;rw[Ax,Br,An _ (V' _),Al,Bn]at z;have hs:Ji x:=hs.1;have u:=nQ z (by show (x.length:Int)<=_;omega) (λi hi g=>by
  rw[AB,An (i:Int),Al,Aj,Ay]at g;have:=g.1;show i<x.length;simp only at this;omega) (λi hi=>rfl)
 have q:∀i:Nat,i<x.length->((x.getD i []).length:Int)=k/\∀j:Nat,j<(x.getD i []).length->Cc ((x.getD i []).getD j (0,0,0,0))=true/\(i=0->((x.getD i []).getD j (0,0,0,0)).1≠1)/\(((x.getD i []).getD j (0,0,0,0)).1≠9->((x.getD i []).getD j (0,0,0,0)).2.2.2<x.length):=by
  intro i hi;have g:=u i hi;rw[AB,AB,Aj,Aj]at g;obtain⟨_,A,c2⟩:=g;simp only[Ax,Bo,Al,AJ,Aw,AG,Jw,Ay]at A;rw[Ax,Br,An _ (V' _),Al,Bn]at c2;have D:=(hs.2 _ (Cd x i [] hi)).1;have n:(So x (R_ (i:Int)) [])=x.getD i []:=(by rw[AJ,Aw,AG]);have t:=nQ c2 (by show ((So x (R_ (i:Int)) []).length:Int)<=_;rw[n];omega) (λj s g=>by
   simp only[AB,An,Al,Aj,Ay]at g;have:=g.1;show j<(So x (R_ (i:Int)) []).length;omega) (λj s=>rfl)
  refine⟨A,λj s=>?_⟩;have g:=t j (by show j<(So x (R_ (i:Int)) []).length;rw[n];exact s);simp only[n]at g;simp only[AB,Ax,Bd,BM,BF,Bo,CY,Al,AJ,Aw,AG,Aj,Br,Cl,B7]at g;obtain⟨_,d1,b⟩:=g;refine⟨d1,λC=>?_,λy=>?_⟩
  ·subst C;simp only[Int.ofNat_zero,Ns,decide_true,AX,Cl,Bn]at b;exact b.1
  split at b
  ·simp only[Cl,Gf,Bn,B7,Ay]at b;rcases b.2 with b|b
   ·exact absurd b y
   omega
  simp only[Gf,Bn,B7,Ay]at b;rcases b with b|b
  ·exact absurd b y
  omega
 exact⟨by omega,by omega,by omega,by omega,λi hi=>(q i hi).1,λi j hi s=>(q i hi).2 j s⟩
theorem mw(k:Int)(x:Cz)(on b:Int)(hs:DW (k,x)):FW ((k,x),on,b)=B6 ((k,x),on,b):=by
 rw[zN,B6.eq_1,aq];simp only[bg,W1,Hs];cases h:Ei (k,x)with
 |false=>simp only[Ax,Bd];simp[BM]
 | true=>
   have m:=G9 hs h;rw[FB (by unfold Bl;have:=m.k1;have:=m.k2;omega)];have:t8 (U' true) (U' (decide (0<=b)&&decide (b<=k-1)))=t8 (U' true) (t8 (b_ b 0) (iGe b k)):=by
    rw[Kh];simp only[Ax,Bd,An,CY,Aj,Ce,Br,B7,Gf,Cl,Ay,Bn,GI,JG,Bb,Ka];simp;omega
   rw[this]
theorem mn(k:Int)(x:Cz)(on b:Int)(hs:DW (k,x)):Wl ((k,x),on,b)/\Wk ((k,x),on,b):=by
 obtain⟨F,D⟩:=kx (k,x) hs;have i:∀ {c:Int->Bool} {f:Int->Int} {p:Int->Prop},Ei (k,x)=true->(∀st,c st=true->0<st)->(∀st,f st=iSub .i64 st 1)->(∀st:Int,0<=st->st<x.length->p st)->a_ c f p (iSub .i64 (V' x) 1):=by
  intro c f p h n G hp;have m:=G9 hs h;have:=m.l1;have:=m.l2;rw[Al,FB (by unfold Bl;omega)];refine(MX (λst:Int=>0<=st/\st<x.length) (λst=>st.toNat) (λst C=>⟨hp st C.1 C.2,λu=>?_⟩) (by omega)).1;have:=n st u;rw[G,FB (by unfold Bl;omega)];omega
 have j:Ei (k,x)=true->0<=b->b<k->∀st:Int,0<=st->st<x.length->R_ st<x.length/\b<((So x (R_ st) []).length:Int)/\R_ b<(So x (R_ st) []).length:=by
  intro h h0 h1 st g q;have m:=G9 hs h;have:=m.row st.toNat (by omega);rw[AJ,Aw,Aw];omega
 rw[Zah,Wk.eq_1];simp only[bg];refine⟨⟨⟨F,λ_=>trivial,λ_=>Q5 _⟩,λ_=>trivial,λs=>?_⟩,D,λ_=>trivial,λs=>?_⟩
 ·simp only[Hs,Ax,Bd,Cl,B7,Aj,Ay]at s;obtain⟨h,h0,h1⟩:=s;have m:=G9 hs h;rw[FB (by unfold Bl;have:=m.k1;have:=m.k2;omega)]at h1;refine i h (λst n=>?_) (λst=>rfl) (λst g q=>?_)
  ·rw[AB,DH,Aj,Ay]at n;exact n.1
  obtain⟨A,z,y⟩:=j h h0 (by omega) st g q;exact⟨λ_=>⟨g,λ_=>⟨⟨g,q⟩,A,⟨h0,z⟩,y⟩,λ_=>trivial⟩,λ_=>trivial⟩
 simp only[An,CY,Ax,Bd,Cl,B7,Bn]at s;obtain⟨h,h0,h1⟩:=s;have t:0<=b:=Int.not_lt.mp h0;rw[zC];refine i h (λst n=>?_) (λst=>rfl) (λst g q=>?_)
 ·rw[AB,DH,Aj,Ay]at n;exact n.1
 obtain⟨A,z,y⟩:=j h (by omega) (by omega) st g q;exact⟨λ_=>⟨by rw[lv];exact g,λ_=>⟨⟨g,q⟩,A,⟨t,z⟩,y⟩,λ_=>trivial⟩,λ_=>trivial⟩
def BE(h:Dk):Int×Int:=(h.2.2.1,h.2.2.2.1)
theorem nB(b:Bj)(i:Nat):(b.map BE).getD i (0,0)=BE (b.getD i (0,0,0,0,0)):=by
 rw[C0,C0,Im];cases b[i]?<;>rfl
theorem Zj5{c:Int->Bool}{f:Int->Int}(n:Int)(h0:0<=n)(i:n<=9223372036854775806)(g:∀st:Int,c st=true->st<n)(b:∀st,f st=V_ .i64 st 1):0<=Am c f 0:=
 (Ot (λst=>0<=st/\st<=n) (λst=>(n-st).toNat) (λst j h=>by
  have:=g st h;rw[b,B9 (by constructor<;>omega)];exact⟨by omega,by omega⟩) ⟨by omega,h0⟩).1.1
theorem Ra(b:Bj)(k c m:Int):CV (b,k,c,m)=Bt (b.map BE,c,m):=by
 rw[ZaV,aA];simp only[AJ,nB,Al,Bh,BE]
theorem X9(b:Pm)(q:Au)(h:b.length<=1048576):Bt (b,q)=-1\/(0<=Bt (b,q)/\Bt (b,q)<b.length):=by
 rw[aA,BM,An,Al];split
 ·rename_i i;rw[Ay]at i;refine .inr ⟨Zj5 b.length (by omega) (by omega) (λst g=>?_) (λ_=>rfl),i⟩;rw[AB,An,Aj,Ay]at g;exact g.1
 exact .inl rfl
theorem dM(g:Bj)(q:DD)(h:g.length<=1048576):Of (g,q):=by
 rw[Za4];refine Ke (λst=>st) g.length (by omega) (λst _ _ h=>?_) (λ_=>rfl) (λst h0 h1=>⟨λi=>?_,λ_=>trivial⟩) (by simp) (by simp)
 ·rw[AB,An,Al,Aj,Ay]at h;exact h.1
 rw[An,Al,Ay]at i;have a:(0:Int)<=st/\st<(g.length:Int):=⟨h0,i⟩;have b:R_ st<g.length:=by rw[Aw];omega
 exact⟨a,b,λ_=>⟨a,b⟩,λ_=>trivial⟩
theorem pF(b:Pm)(q:Au)(h:b.length<=1048576):Qn (b,q):=by
 rw[ZbH];refine Ke (λst=>st) b.length (by omega) (λst _ _ h=>?_) (λ_=>rfl) (λst h0 h1=>⟨λg=>?_,λ_=>trivial⟩) (by simp) (by simp)
 ·rw[AB,An,Al,Aj,Ay]at h;exact h.1
 rw[An,Al,Ay]at g;exact⟨⟨h0,g⟩,by rw[Aw];omega⟩
theorem lB(b:Bj)(p:Int)(h0:0<=p)(h1:p<b.length):(Dw (b,p)).map BE=i9 (lTake (b.map BE) (lN (lSub (b.map BE) 0 (R_ p)))) (lSub (b.map BE) (R_ (V_ .i64 p 1)) (lN (b.map BE))):=by
 have hm:min p.toNat b.length=p.toNat:=by omega
 rw[Sa];simp only[BL,XP,Iw,Jm,Aw,Hy,Nc,C9,Gb,YY,List.map_drop,Bh,CL,hm]
theorem lz(b:Bj)(p:Int)(h0:0<=p)(h1:p<b.length)(h:b.length<=1048576):(Dw (b,p)).length<=b.length:=by
 rw[Sa];simp only[BL,Iw,Jm,Aw,Hy,Nc,C9,Nk,CM,CL];rw[B9 (by constructor<;>omega)];omega
theorem cD(K p:Int)(A:Bool):U' (t8 (U' (BU (K,0,2))) (t8 (U' A) (U' (bIff (g_ K 2) (iGe p 0)))))=
 W_ (U' (U' A)) (Z' (t8 (g_ K 0) (g_ K 1)) (U' (iGe p 0)) (W_ (g_ K 2) (U' (b_ p 0)))):=by
 have hp:decide (p<0)=!decide (0<=p):=by simp only[<- decide_not,Int.not_le]
 rw[aV];simp only[AB,Ax,Bd,EP,BM,BF,CY,Ff,An,hp];generalize decide (0<=p)=P;have h:K=0\/K=1\/K=2\/(¬(0<=K/\K<=2)):=by omega
 rcases h with h|h|h|h
 ·subst h;cases A<;>cases P<;>decide
 ·subst h;cases A<;>cases P<;>decide
 ·subst h;cases A<;>cases P<;>decide
 have j:K≠0:=by omega
 have i:K≠1:=by omega
 have g:K≠2:=by omega
 have b:(decide (0<=K)&&decide (K<=2))=false:=by rw[<- Bool.decide_and];exact C7 h
 simp only[b,j,i,g,decide_false];cases A<;>rfl
theorem Zic {l:List DD} {cs:List Dk×Int->Bool} {fs} {x:List Au×Int->Bool} {fi}
 (h:∀(g:Bj) (i:Int),0<=i->i<=l.length->g.length<=i->cs (g,i)=x (g.map BE,i)/\(cs (g,i)=true->i<l.length/\∃q:List Dk,fs (g,i)=(q,i+1)/\fi (g.map BE,i)=(q.map BE,i+1)/\q.length<=i+1)):
 W_ (U' (b_ (Am cs fs ([],0)).2 (V' l))) (W_ (iLe (V' l) 8) (g_ (V' (Am cs fs ([],0)).1) 0))=
 W_ (U' (iGt (V' l) 8)) (W_ (U' (b_ (Am x fi ([],0)).2 (V' l))) (g_ (V' (Am x fi ([],0)).1) 0)):=by
 have go:∀(n:Nat) (g:Bj) (i:Int),0<=i->i<=l.length->g.length<=i->(l.length-i).toNat<n ->
  ∃(s:Bj) (j:Int),LoopTo cs fs (λ_=>True) (g,i) (s,j)/\LoopTo x fi (λ_=>True) (g.map BE,i) (s.map BE,j):=by
  intro n;induction n with
  |zero=>intro _ _ _ _ _ hm;exact absurd hm (Pa _)
  | succ n ih=>
    intro g i h0 h1 y hm;obtain⟨a,b⟩:=h g i h0 h1 y;cases t:cs (g,i)with
    |false=>exact⟨g,i,.stop trivial t,.stop trivial (by rw[<- a,t])⟩
    | true=>
      obtain⟨C,q,c2,A,z⟩:=b t;obtain⟨s,j,d1,u⟩:=ih q (i+1) (by omega) (by omega) z (by omega);exact⟨s,j,.go trivial t (by rw[c2];exact d1),.go trivial (by rw[<- a,t]) (by rw[A];exact u)⟩
 obtain⟨s,j,d1,u⟩:=go _ [] 0 (by omega) (by omega) (by simp) (Ua _);have u:LoopTo x fi (λ_=>True) ([],0) (s.map BE,j):=u;rw[d1.val,u.val];simp only[AB,Ax,Ff,DH,Al,Bh,<- decide_not,Int.not_lt];exact Bool.and_left_comm ..
theorem bT (b:Bj) (K c m p i:Int) (t:Bool) (n:Int) (hp:p=-1\/(0<=p/\p<b.length)) (hd:b.length<=i) (hi:i<n) (s:n<=1048576)
 (g:Z' (t8 (g_ K 0) (g_ K 1)) (U' (iGe p 0)) (W_ (g_ K 2) (U' (b_ p 0)))=true):
 Z' (t8 (g_ K 0) (g_ K 1)) (Z' (g_ K 1) (i9 (b.map BE) [(c,m)]) (b.map BE)) (i9 (lTake (b.map BE) (lN (lSub (b.map BE) 0 (R_ p)))) (lSub (b.map BE) (R_ (V_ .i64 p 1)) (lN (b.map BE))))=
  (Z' (g_ K 1) (i9 b [(0,2,c,m,0)]) (Z' (g_ K 2) (Dw (b,p)) b)).map BE /\
 ((Z' (g_ K 1) (i9 b [(0,2,c,m,0)]) (Z' (g_ K 2) (Dw (b,p)) b)).length:Int)<=i+1:=by
 simp only[BM,Bd,AB,Ax,BF,CY,An,Ce,Ay]at g ⊢;by_cases j:K=1
 ·subst j;simp[BL,BE];omega
 by_cases q:K=0
 ·subst q;simp;omega
 simp only[q,j,or_self,A5,Aj,Ay,Br,Bn]at g ⊢;have h0:0<=p:=by omega
 have h1:p<b.length:=by omega
 rw[Ad g.1];refine⟨(lB b p h0 h1).symm,?_⟩;have:=lz b p h0 h1 (by omega);omega
theorem lZ(x:Cn)(h:x.length<=1048576):G5 x=I8 x:=by
 rw[jw,zt];refine Zic (λq i h0 h1 z=>?_);have j:=X9 (q.map BE) ((So x (R_ i) (0,0,0)).2.1,(So x (R_ i) (0,0,0)).2.2) (by rw[Bh];omega);rw[Bh]at j;simp only[Ra,Om,Sf,cD];generalize Bt (q.map BE,(So x (R_ i) (0,0,0)).2.1,(So x (R_ i) (0,0,0)).2.2)=p at j ⊢;refine⟨trivial,λs=>?_⟩;rw[AB,AB,An,Al,Aj,Aj,Ay]at s;obtain⟨g,y,n⟩:=s;obtain⟨u,t⟩:=bT q (So x (R_ i) (0,0,0)).1 (So x (R_ i) (0,0,0)).2.1 (So x (R_ i) (0,0,0)).2.2 p i true x.length j z g (by omega) n;rw[B9 (a:=i) (b:=1) (by constructor<;>omega)];exact⟨g,_,rfl,by rw[u],t⟩
theorem Ov{k w:Nat}(h:k<=1048577)(b:w<=1000):AE (k*w):=by
 unfold AE;exact CW (Nat.mul_le_mul h b) (by decide)
theorem Xl(g:Bj)(p:Int)(h0:0<=p)(h1:p<g.length)(h:g.length<=1048576):N3 (g,p):=by
 rw[vK,B9 (a:=p) (b:=1) (by constructor<;>omega)];simp only[Aw,Iw,BL,Jm,Hy,Nc,C9,Nk,CM,A7,CL];refine⟨⟨h0,by omega,by omega,by omega⟩,⟨by omega,by omega,by omega,by omega⟩,Ov (by omega) (by omega),Ov (by omega) (by omega)⟩
theorem jY(x:Cn)(h:x.length<=1048576):Qa x:=by
 rw[zx];refine(MX (λst:List Dk×Int=>0<=st.2/\st.2<=(x.length:Int)/\(st.1.length:Int)<=st.2) (λst=>((x.length:Int)-st.2).toNat) (λst I=>?_) ⟨by simp,by simp,by simp⟩).1;obtain⟨j,i⟩:=st;obtain⟨y,D,u⟩:=I;simp only at y D u;have n:=X9 (j.map BE) ((So x (R_ i) (0,0,0)).2.1,(So x (R_ i) (0,0,0)).2.2) (by rw[Bh];omega);rw[Bh]at n;have F:=dM j ((So x (R_ i) (0,0,0)).1,(So x (R_ i) (0,0,0)).2.1,(So x (R_ i) (0,0,0)).2.2) (by omega);simp only[Ra,Om,Sf,cD,Vv,je,Qy];generalize Bt (j.map BE,(So x (R_ i) (0,0,0)).2.1,(So x (R_ i) (0,0,0)).2.2)=p at n ⊢;refine⟨⟨λz=>?_,λ_=>trivial⟩,λg=>?_⟩
 ·rw[An,Al,Ay]at z;refine⟨⟨y,z⟩,by rw[Aw];omega,F,⟨trivial,λ_=>trivial,λ_=>⟨trivial,trivial⟩⟩,λ_=>trivial,λg=>⟨λ_=>⟨trivial,Ov (by simp only[A0,A7];omega) (by omega)⟩,λC=>⟨λt=>?_,λ_=>trivial⟩⟩⟩;have g:=congrArg U' g;rw[cD]at g;simp only[BM,Bd,AB,Ax,BF,CY,An,Ay]at g C t;simp[t]at g;exact Xl j p (by omega) (by omega) (by omega)
 rw[AB,AB,An,Al,Aj,Aj,Ay]at g;obtain⟨s,G,q⟩:=g;obtain⟨J,A⟩:=bT j (So x (R_ i) (0,0,0)).1 (So x (R_ i) (0,0,0)).2.1 (So x (R_ i) (0,0,0)).2.2 p i true x.length n u s (by omega) q;rw[B9 (a:=i) (b:=1) (by constructor<;>omega)];exact⟨⟨by show 0<=i+1;omega,by show i+1<=_;omega,A⟩,by show (_-(i+1)).toNat<_;omega⟩
theorem j8(x:Cn)(h:x.length<=1048576):Qc x:=by
 rw[zu];refine⟨λ_=>trivial,λ_=>?_⟩;refine(MX (λst:List Au×Int=>0<=st.2/\st.2<=(x.length:Int)/\∃g:List Dk,st.1=g.map BE/\(g.length:Int)<=st.2) (λst=>((x.length:Int)-st.2).toNat) (λst G=>?_) ⟨by simp,by simp,[],rfl,by simp⟩).1;obtain⟨I,i⟩:=st;obtain⟨t,C,g,rfl,s⟩:=G;simp only at t C s;have j:=X9 (g.map BE) ((So x (R_ i) (0,0,0)).2.1,(So x (R_ i) (0,0,0)).2.2) (by rw[Bh];omega);have D:=pF (g.map BE) ((So x (R_ i) (0,0,0)).2.1,(So x (R_ i) (0,0,0)).2.2) (by rw[Bh];omega);rw[Bh]at j;simp only[RW];generalize Bt (g.map BE,(So x (R_ i) (0,0,0)).2.1,(So x (R_ i) (0,0,0)).2.2)=p at j ⊢;refine⟨⟨λy=>?_,λ_=>trivial⟩,λu=>?_⟩
 ·rw[An,Al,Ay]at y;refine⟨⟨t,y⟩,by rw[Aw];omega,D,trivial,λ_=>trivial,λ_=>⟨λ_=>⟨λ_=>trivial,λ_=>⟨λ_=>Ov (by simp only[Bh,A0,A7];omega) (by omega),λ_=>trivial⟩⟩,λ_=>⟨λ_=>⟨λ_=>trivial,λhp=>?_⟩,λ_=>trivial⟩⟩⟩;rw[An,Bn]at hp;have h0:0<=p:=(by omega);have h1:p<g.length:=(by omega);rw[B9 (a:=p) (b:=1) (by constructor<;>omega)];simp only[Aw,Iw,Jm,Hy,Nc,C9,Nk,Bh];exact⟨⟨h0,by omega,by omega,by omega⟩,⟨by omega,by omega,by omega,by omega⟩,by omega,by omega,Ov (by omega) (by omega)⟩
 rw[AB,AB,An,Al,Aj,Aj,Ay]at u;obtain⟨q,F,n⟩:=u;obtain⟨A,z⟩:=bT g (So x (R_ i) (0,0,0)).1 (So x (R_ i) (0,0,0)).2.1 (So x (R_ i) (0,0,0)).2.2 p i true x.length j s q (by omega) n;rw[B9 (a:=i) (b:=1) (by constructor<;>omega)];exact⟨⟨by show 0<=i+1;omega,by show i+1<=_;omega,_,A,z⟩,by show (_-(i+1)).toNat<_;omega⟩
abbrev CP:=Int×Cz×CJ×Int×Bj×Int×Bool
theorem nW{c c':Int->Bool}{f:Int->Int}{p q:Int->Prop}(n:Nat)(J:n<=1048576)(z:∀i:Nat,i<n->c i=c' i)(t:∀i:Nat,c i=true->i<n)(j:∀i:Nat,c' i=true->i<n)(u:∀i,f i=V_ .i64 i 1)(hp:∀i:Nat,i<=n->p i/\q i):a_ c f p 0/\a_ c' f q 0/\Am c f 0=Am c' f 0/\0<=Am c f 0/\Am c f 0<=n:=by
 obtain⟨I,G,⟨k,h1,C,A⟩,L⟩:=XH (c:=c) (f:=f) (p:=p) (d:=c') (g:=f) (q:=q) (x0:=0) (y0:=0) (λx y=>∃k:Nat,k<=n/\x=k/\y=k) (λx=>n-x.toNat) (by
  rintro x y ⟨k,s,rfl,rfl⟩;refine⟨(hp k s).1,(hp k s).2,?_,λh=>?_⟩
  ·by_cases b:k<n
   ·exact z k b
   have F:c (k:Int)=false:=by cases h:c (k:Int)with
    |false=>rfl
    |true=>exact absurd (t k h) b
   have D:c' (k:Int)=false:=by cases h:c' (k:Int)with
    |false=>rfl
    |true=>exact absurd (j k h) b
   rw[F,D]
  have b:=t k h;have e:f (k:Int)=((k+1:Nat):Int):=(by rw[u,B9 (by unfold Bl;omega)];omega);exact⟨⟨k+1,b,e,e⟩,by rw[e];omega⟩) ⟨0,by omega,rfl,rfl⟩
 exact⟨I,G,by rw[C,A],by omega,by omega⟩
theorem Oi(x:CP)(hs:Cg x):PZ x/\P8 x/\CG x=Gr x:=by
 obtain⟨n,b,g,s,j,t,u⟩:=x;have J:DW (n,b):=hs.1;have hm:Hh g:=hs.2.1;have z:Ho j:=hs.2.2.1;obtain⟨a1,a2⟩:=kx (n,b) J;have l1:=nW (c:=NV (n,b,g,s,j,t,u)) (c':=KJ (n,b,g,s,j,t,u)) (f:=IG) (p:=ZC (n,b,g,s,j,t,u)) (q:=ZB (n,b,g,s,j,t,u)) g.length hm.1
  (λi hi=>by
   simp only[NV,KJ];rw[AJ,Aw,AG,lZ _ (hm.2 _ (Cd g i [] hi)).1])
  (λi h=>by simp only[NV,AB,Aj,An,Al,Ay]at h;omega)
  (λi h=>by simp only[KJ,AB,Aj,An,Al,Ay]at h;omega) (λi=>rfl)
  (λi hi=>by
   have k:(i:Int)<g.length->Qa (So g (R_ (i:Int)) [])/\Qc (So g (R_ (i:Int)) []):=λh=>by
    rw[AJ,Aw,AG];have:=(hm.2 _ (Cd g i [] (by omega))).1;exact⟨jY _ this,j8 _ this⟩
   simp only[ZC,ZB,An,Al,Ay];refine⟨⟨λh=>⟨⟨by omega,h⟩,by rw[Aw];omega,(k h).1⟩,λ_=>trivial⟩,⟨λh=>⟨⟨by omega,h⟩,by rw[Aw];omega,(k h).2⟩,λ_=>trivial⟩⟩)
 have l2:=nW (c:=PJ (n,b,g,s,j,t,u)) (c':=Mv (n,b,g,s,j,t,u)) (f:=IG) (p:=ZI (n,b,g,s,j,t,u)) (q:=ZK (n,b,g,s,j,t,u)) j.length z.1
  (λi hi=>rfl)
  (λi h=>by simp only[PJ,AB,Aj,An,Al,Ay]at h;omega)
  (λi h=>by simp only[Mv,AB,Aj,An,Al,Ay]at h;omega) (λi=>rfl)
  (λi hi=>by
   simp only[ZI,ZK,An,Al,Ay];have k:(i:Int)<j.length->R_ (i:Int)<j.length:=λh=>(by rw[Aw];omega);refine⟨⟨λh=>⟨⟨by omega,h⟩,k h,λ_=>trivial,λ_=>⟨⟨by omega,h⟩,k h,λ_=>⟨⟨by omega,h⟩,k h⟩,λ_=>trivial⟩⟩,λ_=>trivial⟩,⟨λh=>⟨⟨by omega,h⟩,k h⟩,λ_=>trivial⟩⟩)
 have ef:ID=IG:=rfl;rw[xI,xU,yp,iX,ef];obtain⟨p1,p2,Z,_⟩:=l1;obtain⟨Y,U,R,_⟩:=l2;simp only[<- Z,<- R,bg,QF];have I:(0:Int)<=V' b:=by rw[Al];omega
 refine⟨?_,?_,?_⟩
 ·simp only[a1,VM j z.1,Q5,p1,Y,I];simp
 ·simp only[a2,V3 j z.1,p2,U,I];simp
 cases hv:Ei (n,b)with
 |false=>simp[Bd,Ax,AB]
 | true=>
   have hm:=G9 J hv;have O:iShl .i64 1 (V' b)=((2^b.length:Nat):Int):=by
    have N:2^b.length<=2^4:=Nat.pow_le_pow_right (by omega) hm.l2;rw[Al];have:=TU (a:=1) (k:=b.length) (by have:=hm.l2;omega) (by omega);rw[FF]at this;exact this
   have N:2^b.length<=2^4:=Nat.pow_le_pow_right (by omega) hm.l2;generalize (2^b.length:Nat)=M at O N;have e2:iSub .i64 (M:Int) 1=(M:Int)-1:=FB (by unfold Bl;omega);rw[O,e2,Hs,Hs];generalize b_ (Am _ _ _) (V' g)=A;generalize b_ (Am _ _ _) (V' j)=B;rw[Kh];simp only[Bd,Ax,AB,DH,An,CY,BF,Aj,Cl,Br,Ay,Bn,GH];constructor
   ·rintro⟨⟨_,h1,G,h4,h5⟩,F,D,C,L,y⟩;exact⟨⟨trivial,h1,G⟩,F,D,⟨C,by omega⟩,L,by omega,by omega⟩
   rintro⟨⟨_,h1,G⟩,F,D,⟨C,L⟩,y,h11,h12⟩;exact⟨⟨trivial,h1,G,by omega,by omega⟩,F,D,C,y,by omega⟩
theorem ZcD(x:CJ)(hs:Hh x):RY x/\Sb x=x:=by
 rw[ug,uN];obtain⟨g,b⟩:=Zgq (c:=Vd x) (f:=Vb x) (p:=Zy x) x [] hs.1 (λi l=>by simp[Vd,An,Al])
  (λi l _=>by simp[Vb,BL,AJ,Aw]) (λi l hi j=>by
   simp only[Zy,An,Al,Ay];refine⟨λh=>?_,λ_=>trivial⟩;have e:So x (R_ (i:Int)) []=x.getD i []:=(by rw[AJ,Aw,AG]);have:=(hs.2 _ (Cd x i [] (by omega))).1;have:=hs.1;rw[e];refine⟨⟨by omega,h⟩,by rw[Aw];omega,by unfold AE;omega,by unfold AE;simp only[A0,A7];omega⟩)
 exact⟨g,by rw[b]⟩
theorem bL(x:CP)(hs:Cg x):Qi x/\DQ x=x:=by
 obtain⟨n,g,b,j,q,s,t⟩:=x;have hm:Hh b:=hs.2.1;have y:Ho q:=hs.2.2.1;obtain⟨z,c2⟩:=ZgC n g hs.1;rw[Zby,ZaP];obtain⟨C,A⟩:=cQ (c:=VV (n,g,b,j,q,s,t)) (f:=VK (n,g,b,j,q,s,t)) (p:=Z1 (n,g,b,j,q,s,t)) b [] hm.1 (λi l=>by simp[VV,An,Al])
  (λi l _=>by simp[VK,BL,AJ,Aw]) (λi l hi u=>by
   simp only[Z1,An,Al,Ay];refine⟨λh=>?_,λ_=>trivial⟩;have e:So b (R_ (i:Int)) []=b.getD i []:=(by rw[AJ,Aw,AG]);have:=(hm.2 _ (Cd b i [] (by omega))).1;have:=hm.1;rw[e];refine⟨⟨by omega,h⟩,by rw[Aw];omega,by unfold AE;simp only[A7];omega,by unfold AE;simp only[A0,A7];omega⟩)
 have u:=y.1;refine⟨⟨z,C,by unfold AE;simp only[A7];omega⟩,?_⟩;rw[A];simp only[c2,BL,CL]
theorem Tp (x):Fx x=BP x:=by rw[ZbJ,jO]
theorem Xq(x:Gg)(h:x.1.2.2.2.2.1.length<=1048576):SS x/\Qm x:=by
 rw[ZbV,ZaZ];have:∀ {c:Int->Bool} {f:Int->Int} {p:Int->Prop},(∀st,c st=true->st<x.1.2.2.2.2.1.length)->(∀st,f st=V_ .i64 st 1)->(∀st:Int,0<=st->st<=x.1.2.2.2.2.1.length->p st)->a_ c f p 0:=λb i hp=>
  Ke (λst=>st) x.1.2.2.2.2.1.length (by omega) (λst _ _ h=>b st h) i hp (by simp) (by simp)
 constructor;all_goals
  refine this (λst b=>?_) (λ_=>rfl) (λst h0 h1=>⟨λg=>?_,λ_=>trivial⟩)
  ·rw[AB,An,Al,Aj,Ay]at b;exact b.1
  rw[An,Al,Ay]at g;exact⟨⟨h0,g⟩,by rw[Aw];omega⟩
theorem Zc6{x:List Cn}(h:CT.wf (.sl (.one (.sl AO))) x):bY x:=by
 exact⟨h.1,λl b=>⟨(h.2 l b).1,λa _=>by simp[pG]⟩⟩
theorem pV{a b:List Int}(s:a.Pairwise (· < ·))(q:b.Pairwise (· < ·))(h:∀x,x∈a↔x∈b):a=b:=by
 induction a generalizing b with
 | nil=>
   cases b with
   |nil=>rfl
   |cons y b=>exact absurd ((h y).2 Hx) List.not_mem_nil
 | cons x a ih=>
   cases b with
   |nil=>exact absurd ((h x).1 Hx) List.not_mem_nil
   | cons y b=>
     obtain⟨n,u⟩:=List.pairwise_cons.1 s;obtain⟨j,t⟩:=List.pairwise_cons.1 q;have e:x=y:=by
      rcases CE.1 ((h x).1 Hx)with e|e
      ·exact e
      rcases CE.1 ((h y).2 Hx)with g|g
      ·exact g.symm
      have:=n _ g;have:=j _ e;omega
     subst e;congr 1;refine ih u t λz=>⟨λi=>?_,λi=>?_⟩
     ·rcases CE.1 ((h z).1 (List.mem_cons_of_mem _ i))with e|e
      ·subst e;have:=n _ i;omega
      exact e
     rcases CE.1 ((h z).2 (List.mem_cons_of_mem _ i))with e|e
     ·subst e;have:=j _ i;omega
     exact e
theorem qj {α:Type} {c:Int->Bool} {f:Int->Int} {p:Int->Prop} (x:List α) (d:α) (q:α->Bool) (z:x.length<=1048576)
 (t:∀i:Nat,i<=x.length->c (i:Int)=(decide (i<x.length)&&!q (x.getD i d))) (s:∀i:Nat,i<x.length->f (i:Int)=V_ .i64 (i:Int) 1) (hp:∀i:Nat,i<=x.length->p (i:Int)):
 a_ c f p 0/\b_ (Am c f 0) (V' x)=x.any q:=by
 obtain⟨h1,k,A,y,j⟩:=Zji (c:=c) (f:=f) (p:=p) (x0:=0) x.length (λi=>(i:Int)) (λi=>!q (x.getD i d)) rfl (λi hi _=>t i hi) (λi hi _=>by rw[s i hi,B9 (by unfold Bl;omega)];simp) (λi hi _=>hp i hi);refine⟨h1,?_⟩;rw[y,An,Al,Kh,Ay,List.any_eq_true];constructor
 ·intro h;have b:¬ ∀i,i<x.length->(!q (x.getD i d))=true:=λn=>(by have:=j.2 n;omega);simp only[Classical.not_forall,Br,JG]at b;obtain⟨i,hi,g⟩:=b;exact⟨_,Cd x i d hi,g⟩
 rintro⟨a,u,g⟩;obtain⟨i,hi,rfl⟩:=Ik u;have C:k≠x.length:=λe=>by
  have:=j.1 e i hi;rw[Hq x d hi,g]at this;exact absurd this (by decide)
 omega
theorem Zgv(l:BO)(v:Int)(b:l.length<=1048576):Wp (l,v)/\Qs (l,v)=decide (v∈l):=by
 rw[Zbo,Za7];obtain⟨h1,n⟩:=qj (c:=V2 (l,v)) (f:=ae) (p:=Z5 (l,v)) l 0 (λa=>decide (a=v)) b
  (λi hi=>by simp only[V2,AB,An,Al,Ax,BF,AJ,Aw,AG,CX])
  (λi hi=>rfl) (λi hi=>by
   simp only[Z5,An,Al,Aw,AG,Ay];exact⟨λh=>⟨⟨by omega,by omega⟩,by omega⟩,λ_=>trivial⟩)
 refine⟨h1,?_⟩;rw[n,Kh,List.any_eq_true,Ay];constructor
 ·rintro⟨a,j,g⟩;rw[Ay]at g;exact g▸j
 intro h;exact⟨v,h,by simp⟩
def Zjh(C l:BO):Prop:=l.Pairwise (· < ·)/\∀z,z∈l↔(z∈C/\z≠0)
theorem Zhm{α:Type}(x:List α)(d:α){i:Nat}(h:i<x.length)(z:α):z∈x.take (i+1)↔z∈x.take i\/z=x.getD i d:=by
 rw[<- J5 x d h,CI,List.mem_singleton]
theorem Zjt{α:Type}(x:List α){i:Nat}{z:α}(h:z∈x.take i):∃j,∃(b:j<x.length),j<i/\z=x[j]:=by
 obtain⟨j,b,rfl⟩:=Ik h;rw[C9]at b;exact⟨j,by omega,by omega,List.getElem_take ..⟩
theorem lE(C:BO)(hl:C.length<=1048576):SJ C/\Zjh C (MI C)/\(MI C).length<=C.length:=by
 rw[zV,zI];simp only[iQ,VH,DMk.ok];have hs:(Eb C 0).1=DB C:=by rw[kq]
 have G:=bK C;have A:(DB C).Pairwise (λa b=>a<=b):=by
  have:=List.pairwise_mergeSort (le:=λx y:Int=>decide (x<=y)) (by simp;intros;omega) (by simp;intros;omega) C;exact this.imp (by simp)
 have q:∀z,z∈DB C↔z∈C:=λz=>(List.mergeSort_perm C _).mem_iff;generalize DB C=S at hs G A q;have F:= XT (c:=R6 C) (f:=VE C) (p:=ZS C) (x0:=([],0))
  (λst=>∃i:Nat,st.2=(i:Int)/\i<=S.length/\st.1.length<=i/\st.1.Pairwise (· < ·)/\∀z,z∈st.1↔(z∈S.take i/\z≠0)) (λst=>S.length-st.2.toNat) (by
  rintro⟨l,n⟩ ⟨i,h1,hi,I,hp,hm⟩;simp only at h1 I hp hm;subst h1;simp only[R6,VE,ZS,VH,hs,An,Al,AJ,Aw,AG,Ay];generalize R:S.getD i 0=v;obtain⟨g1,M⟩:=Zgv l v (by omega);have r1:AE ((l.length+[v].length)*1):=(by unfold AE;simp only[A0,A7];omega);refine⟨⟨λh=>⟨⟨by omega,by omega⟩,by omega,⟨λ_=>g1,λ_=>trivial⟩,⟨λ_=>r1,λ_=>trivial⟩⟩,λ_=>trivial⟩,λh=>?_⟩;have t:i<S.length:=(by omega);refine⟨⟨i+1,by rw[B9 (by unfold Bl;omega)];simp,by omega,?_,?_,?_⟩,by rw[B9 (by unfold Bl;omega)];omega⟩
  ·rw[BM,BL];split
   ·simp only[CM,A0,A7];omega
   omega
  ·rw[BM,BL];split
   ·next g=>
    rw[AB,Ax,M,Aj,Bo]at g;obtain⟨D,N⟩:=g;simp only[Br,Bn]at N;refine List.pairwise_append.2 ⟨hp,List.pairwise_singleton _ _,λa U b g=>?_⟩;rw[List.mem_singleton]at g;subst g;obtain⟨j,hj,L,e⟩:=Zjt S ((hm a).1 U).1;have J:=List.pairwise_iff_getElem.1 A j i hj t L;rw[<- Hq S 0 t,R]at J;have:a≠b:=λe=>N (e▸U);omega
   exact hp
  intro z;rw[Zhm S 0 t,R,BM,BL];split
  ·next g=>
   rw[AB,Ax,M,Aj,Bo]at g;obtain⟨D,N⟩:=g;have D:v≠0:=(by simpa using D);rw[CI,List.mem_singleton,hm];constructor
   ·rintro(⟨u,s⟩|e)
    ·exact⟨.inl u,s⟩
    exact⟨.inr e,e▸D⟩
   rintro⟨u|e,s⟩
   ·exact .inl ⟨u,s⟩
   exact .inr e
  next g=>
  rw[AB,Ax,M,Aj,Bo]at g;rw[hm];constructor
  ·rintro⟨u,s⟩;exact⟨.inl u,s⟩
  rintro⟨u|e,s⟩
  ·exact⟨u,s⟩
  subst e;have hz:z∈l:=by
   refine Classical.byContradiction λhn=>g ⟨by simpa using s,by simpa using hn⟩
  exact(hm z).1 hz) ⟨0,rfl,Ec _,BN _,List.Pairwise.nil,by simp⟩
 obtain⟨k1,⟨i,k2,k3,k4,Z,O⟩,Y⟩:=F;simp only[R6,VH,hs,k2,An,Al,Bn]at Y;have:i=S.length:=by omega
 subst this;rw[F6]at O;refine⟨⟨by unfold AE;omega,⟨trivial,by rw[kl];show C.length<4611686018427387904;omega⟩,k1⟩,⟨Z,λz=>by rw[O,q]⟩,by omega⟩
theorem aP{a:Int×Int×Int×Int}(h:Cc a=true):0<=a.2.1/\a.2.1<=56:=by
 rw[Se]at h;simp only[BM,Bd,AB,BF,Bo,Wy,CY,Ff]at h;repeat' split at h
 all_goals simp only[Aj,Ce,Br,B7,Gf,Cl,Ay,Bn,GI,JG,Bb,Ka]at *
 all_goals omega
def CH(x:CQ):List Int:=x.map λa=>a.2.2.1
theorem lV(x:CQ){i:Nat}(h:i<x.length):(CH x).getD i 0=(x.getD i (0,0,0,0,0)).2.2.1:=by
 rw[Hq x _ h,Hq (CH x) 0 (by simpa [CH]using h)];simp[CH]
theorem oO(x:CQ)(N:x.length<=1048576):a_ KH (My x) (ZL x) (1,[])/\(Am KH (My x) (1,[])).2.Pairwise (· < ·)/\∀z,z∈(Am KH (My x) (1,[])).2↔(z∈CH x/\1<=z/\z<=56):=by
 have j:∀(c:Int) (l:BO),l.length<=60->a_ (PK x (c,l)) RU (Vs x (c,l)) 0/\b_ (Am (PK x (c,l)) RU 0) (V' x)=decide (c∈CH x):=by
  intro c l M;obtain⟨h1,y⟩:=qj (c:=PK x (c,l)) (f:=RU) (p:=Vs x (c,l)) x (0,0,0,0,0) (λa=>decide (a.2.2.1=c)) N
   (λi hi=>by simp only[PK,AB,An,Al,Ax,BF,AJ,Aw,AG,CX])
   (λi hi=>rfl) (λi hi=>by
    have r1:AE ((l.length+[c].length)*1):=(by unfold AE;simp only[A0,A7];omega);simp only[Vs,An,Al,Aw,AG,Ay];exact⟨λh=>⟨⟨by omega,by omega⟩,by omega,λ_=>r1,λ_=>trivial⟩,λ_=>trivial⟩)
  refine⟨h1,?_⟩;rw[y,Kh,List.any_eq_true,Ay,CH,List.mem_map];simp only[Ay]
 have t:=XT (c:=KH) (f:=My x) (p:=ZL x) (x0:=(1,[]))
  (λst=>1<=st.1/\st.1<=57/\(st.2.length:Int)<st.1/\st.2.Pairwise (· < ·)/\∀z,z∈st.2↔(z∈CH x/\1<=z/\z<st.1)) (λst=>57-st.1.toNat) (by
  rintro⟨c,l⟩ ⟨h1,y,R,u,s⟩;simp only at h1 y R u s;obtain⟨L,J⟩:=j c l (by omega);refine⟨⟨λ_=>L,λ_=>trivial⟩,λh=>?_⟩;simp only[KH,Ff,Ay]at h;have C:V_ .i64 c 1=c+1:=B9 (by unfold Bl;omega);simp only[My,C,J,BM,BL,Ay];refine⟨⟨by omega,by omega,?_,?_,λz=>?_⟩,by omega⟩
  ·split
   ·simp only[CM,A0,A7];omega
   omega
  ·split
   ·refine List.pairwise_append.2 ⟨u,List.pairwise_singleton _ _,λa O b q=>?_⟩;rw[List.mem_singleton]at q;have:=((s a).1 O).2.2;omega
   exact u
  split
  ·next q=>
   rw[CI,List.mem_singleton,s];constructor
   ·rintro(⟨g,n,A⟩|e)
    ·exact⟨g,n,by omega⟩
    subst e;exact⟨q,by omega,by omega⟩
   rintro⟨g,n,A⟩;by_cases e:z=c
   ·exact .inr e
   exact .inl ⟨g,n,by omega⟩
  next q=>
  rw[s];constructor
  ·rintro⟨g,n,A⟩;exact⟨g,n,by omega⟩
  rintro⟨g,n,A⟩;have:z≠c:=λe=>q (e▸g);exact⟨g,n,by omega⟩) ⟨by simp,by simp,by simp,List.Pairwise.nil,by simp⟩
 obtain⟨I,⟨Z,Y,U,G,F⟩,D⟩:=t;simp only[KH,Ff,Bn]at D;refine⟨I,G,λz=>?_⟩;rw[F];constructor
 ·rintro⟨a,b,c⟩;exact⟨a,b,by omega⟩
 rintro⟨a,b,c⟩;exact⟨a,b,by omega⟩
theorem ZjH(x:CQ)(G:x.length<=1048576):a_ (NU x) (PL x) (Vw x) (0,0)/\a_ (KI x) (KG x) (Vq x) ([],0,0) /\
 (Am (KI x) (KG x) ([],0,0)).2.2=(Am (NU x) (PL x) (0,0)).2/\(Am (KI x) (KG x) ([],0,0)).1=CH x:=by
 obtain⟨F,D,⟨i,h1,A,u⟩,C⟩:=XH (c:=NU x) (f:=PL x) (p:=Vw x) (d:=KI x) (g:=KG x) (q:=Vq x) (x0:=(0,0)) (y0:=([],0,0))
  (λs t=>∃i:Nat,i<=x.length/\s.1=(i:Int)/\t=((CH x).take i,s.1,s.2)) (λs=>x.length-s.1.toNat) (by
   rintro⟨n,m⟩ t ⟨i,hi,h1,rfl⟩;simp only at h1;subst h1;have z:(CH x).length=x.length:=(by simp[CH]);have b:((CH x).take i).length=i:=(by rw[C9];omega);have y:V_ .i64 (i:Int) 1=(i:Int)+1:=B9 (by unfold Bl;omega);simp only[NU,PL,Vw,KI,KG,Vq,An,Al,Aw,AG,Ay,y,b,A0,A7,BL,AJ];refine⟨⟨λh=>⟨⟨⟨by omega,by omega⟩,by omega,λ_=>trivial,λ_=>⟨⟨by omega,by omega⟩,by omega⟩⟩,λ_=>⟨⟨by omega,by omega⟩,by omega⟩,λ_=>trivial⟩,λ_=>trivial⟩,⟨λh=>⟨⟨by omega,by omega⟩,by omega,by unfold AE;omega⟩,λ_=>trivial⟩,trivial,λh=>⟨⟨i+1,by omega,by omega,?_⟩,by omega⟩⟩;have j:i<x.length:=(by omega);rw[<- J5 (CH x) 0 (by omega),lV x j]) ⟨0,by omega,rfl,rfl⟩
 refine⟨F,D,by rw[u],?_⟩;rw[u];simp only[NU,A,An,Al,Bn]at C;rw[Ui];simp only[CH,Bh];omega
theorem LG(x:CQ)(g:x.length<=1048576):MD x/\MF x/\B8 x=Cb x/\(B8 x).2.length<=1048576:=by
 rw[yn,yC,iZ,wU,QF];have j:=VM x g;have i:=V3 x g;by_cases h:CC x=true
 ·obtain⟨A,y,u,t⟩:=ZjH x g;obtain⟨s,q,n⟩:=oO x g;have F:(CH x).length=x.length:=(by simp[CH]);obtain⟨J,⟨c2,I⟩,L⟩:=lE (CH x) (by omega);have D:=Tg g h;have e:MI (CH x)=(Am KH (My x) (1,[])).2:=pV c2 q λz=>by
   rw[I,n];constructor
   ·rintro⟨a,b⟩;refine⟨a,?_⟩;obtain⟨k,C,rfl⟩:=List.mem_map.1 a;have:=aP (D k C).2.2.1;omega
   rintro⟨a,b,c⟩;exact⟨a,by omega⟩
  rw[u,t,<- e];refine⟨⟨j,λ_=>trivial,λ_=>⟨A,s⟩⟩,⟨i,λ_=>trivial,λ_=>⟨y,J⟩⟩,rfl,?_⟩;rw[BM];split
  ·simp
  simp only;omega
 have G:U' (CC x)=true:=by rw[Ax];simpa using h
 rw[G];simp[CK,j,i]
section
set_option maxRecDepth 20000
abbrev Cy:=Int×List Int
theorem aG(a b:Cy)(h:a.2.length<=1048576):Gp (a,b)=decide (a=b):=by
 obtain⟨m,x⟩:=a;obtain⟨n,y⟩:=b;simp only at h;rw[ig,iV];simp only;rw[Uf (c:=λx0=>W_ (b_ x0 (V' x)) (U' (j_ (So x (R_ x0) 0) (So y (R_ x0) 0)))) (f:=λx0=>V_ .i64 x0 1) x.length (λi=>!decide (x.getD i 0=y.getD i 0)) (by omega)
  (λi hi=>by simp only[AB,Ax,Bo,An,Al,AJ,Aw,AG,CX,Jw]) (λi hi=>rfl)]
 have g:=Oj (t:=λi=>!decide (x.getD i 0=y.getD i 0)) (n:=x.length);have j:=Jj (λi=>!decide (x.getD i 0=y.getD i 0)) x.length 0;generalize C8 (λi=>!decide (x.getD i 0=y.getD i 0)) x.length 0=q at g j;simp only[AB,Ax,Bo,BF,An,Al,Jw];rw[Kh];simp only[Aj,Br,Ay,Bn,Aq];constructor
 ·rintro⟨h1,z,u⟩;refine⟨h1,YB (by omega) λi hi s=>?_⟩;have:=(g.1 (by omega)) i hi;rw[B7,Ay,Hq x 0 hi,Hq y 0 s]at this;exact this
 rintro⟨rfl,rfl⟩;have:=g.2 λi hi=>by simp
 refine⟨rfl,rfl,by omega⟩
def JN(p r:Cy):List Cy:=if p=r then []else [r]
theorem ZdD(p r:Cy)(hp:p.2.length<=1048576)(q:r.2.length<=1048576):PT (p,[r])/\Mt p [r]/\P3 (p,[r])=JN p r/\Mu p [r]=JN p r:=by
 have g:So [r] (R_ (0:Int)) (0,[])=r:=by rw[AJ,Aw];rfl
 have n:Qu r=r:=by rw[jV,BL,CL]
 have hs:=aG p r hp;have j:NT (p,[r]) ([],0,p)=(JN p r,1,r):=by
  simp only[NT,g,kz,n,BL,hs,CL];rw[B9 (by unfold Bl;omega),BM,Ax];unfold JN;by_cases e:p=r
  ·simp[e]
  simp[e]
 have h:=H4 (c:=NR (p,[r])) (f:=NT (p,[r])) (p:=PF (p,[r])) 1 (λi=>if i=0 then (([]:List Cy),(0:Int),p)else (JN p r,1,r)) (x0:=([],0,p)) rfl (λk s=>by
  have:k=0:=(by omega);subst this;refine⟨?_,by rw[Ad rfl];simp only[NR,An,Al];rfl,by rw[Ad rfl,j];rfl⟩;rw[Ad rfl];simp only[PF,g,An,Al,Ay];refine⟨λ_=>?_,λ_=>trivial⟩;have b:((0:Int)<=0/\(0:Int)<((List.length [r]:Nat):Int))/\R_ (0:Int)<List.length [r]:=⟨⟨by omega,by simp⟩,by rw[Aw];simp⟩;refine⟨⟨b.1,b.2,(WJ _ _ hp).1,⟨λ_=>⟨b.1,b.2,?_,?_⟩,λ_=>trivial⟩⟩,b⟩
  ·rw[jQ];unfold AE;simp only[A7];omega
  ·unfold AE;simp only[A0,A7];omega) ⟨by
  rw[Ae (by omega)];simp only[PF,An,Al,Ay];exact⟨λh=>absurd h (by simp),λ_=>trivial⟩,by rw[Ae (by omega)];simp only[NR,An,Al];rfl⟩
 rw[iz,iw,Zw,Zv];refine⟨h.1,⟨by simp,λi hi=>?_⟩,by rw[h.2];rfl,?_⟩
 ·have:i=0:=(by simp only[A0,A7]at hi;omega);subst this;exact⟨(WJ _ _ hp).2,hs⟩
 unfold UT JN;simp only[Du];by_cases e:p=r
 ·simp[e]
 simp[e]
theorem aU(x:CP)(k:Int)(u:x.2.2.2.2.1.length<=1048576):(BP (x,k)=-1/\∀a∈x.2.2.2.2.1,a.1≠k)\/∃i:Nat,i<x.2.2.2.2.1.length/\BP (x,k)=(i:Int)/\(x.2.2.2.2.1.getD i (0,0,0,0,0)).1=k:=by
 rw[jO];simp only;generalize x.2.2.2.2.1=l at *;rw[Uf (c:=λx0=>W_ (b_ x0 (V' l)) (U' (g_ (So l (R_ x0) (0,0,0,0,0)).1 k))) (f:=λx0=>V_ .i64 x0 1) l.length (λi=>decide ((l.getD i (0,0,0,0,0)).1=k)) (by omega)
  (λi hi=>by simp only[AB,Ax,BF,An,Al,AJ,Aw,AG,CX]) (λi hi=>rfl)]
 have b:=Oj (t:=λi=>decide ((l.getD i (0,0,0,0,0)).1=k)) (n:=l.length);have g:=Jj (λi=>decide ((l.getD i (0,0,0,0,0)).1=k)) l.length 0;have j:=Oq (λi=>decide ((l.getD i (0,0,0,0,0)).1=k)) l.length 0;generalize C8 (λi=>decide ((l.getD i (0,0,0,0,0)).1=k)) l.length 0=q at b g j;rw[BM,An,Al];by_cases h:q<l.length
 ·right;refine⟨q,h,by rw[Ad (by simpa using h)],by simpa using j (by omega)⟩
 left;refine⟨by rw[Ae (by simpa using h)],λa s=>?_⟩;obtain⟨i,hi,rfl⟩:=Ik s;have:=b.1 (by omega) i hi;rw[Bn,Hq l _ hi]at this;exact this
theorem Zcd(l:CQ)(i:Nat)(h:i<l.length)(b:l.length<=1048576):Dw (l,(i:Int))=l.eraseIdx i /\
 i9 (lTake l (lN (lSub l 0 (R_ (i:Int))))) (lSub l (R_ (V_ .i64 (i:Int) 1)) (lN l))=l.eraseIdx i:=by
 have e:V_ .i64 (i:Int) 1=((i+1:Nat):Int):=by rw[B9 (by unfold Bl;omega)];omega
 rw[Sa];simp only[e,BL,XP,Iw,Jm,Aw,AG,Hy,Nc,CL,C9,Nat.min_eq_left (Nat.le_of_lt h),List.eraseIdx_eq_take_drop_succ];have:(l.drop (i+1)).take (l.length-(i+1))=l.drop (i+1):=Ui (by rw[Nk];omega);rw[this];exact⟨rfl,rfl⟩
theorem aR(x:CP)(hs:Cg x):RQ x/\BA x=x:=by
 obtain⟨i,g,b,n,j,q,s⟩:=x;have hm:Hh b:=hs.2.1;have t:Ho j:=hs.2.2.1;obtain⟨u,c2⟩:=Zco i g hs.1;obtain⟨z,y⟩:=ZcD b hm;rw[il,gU];have A:=t.1;refine⟨⟨u,z,by unfold AE;simp only;omega⟩,?_⟩;simp only[c2,y]
def HH:CP:=(0,[],[],0,[],0,false)
theorem Zd3(x:CP)(k:Int)(hs:Cg x)(h:CG x=false\/BP (x,k)<0):N9 (x,k)/\Qg (x,k)/\HV (x,k)=(HH,[],false)/\Qj (x,k)=(HH,[],false):=by
 have i:x.2.2.2.2.1.length<=1048576:=hs.2.2.1.1;obtain⟨s,q,n⟩:=Oi x hs;obtain⟨g,b⟩:=Xq (x,k) i;have j:t8 (U' (CG x)) (b_ (BP (x,k)) 0)=true:=by
  rw[Bd,Ax,An,Ce,Br,Ay];exact h
 rw[jK,Qg,jF,Qj];simp only[Tp,<- n,j,CK];refine⟨⟨g,s,λ_=>trivial,λh=>by cases h⟩,⟨⟨q,λ_=>trivial,λ_=>b⟩,λ_=>trivial,λh=>by cases h⟩,rfl,rfl⟩
theorem lg(x:CP)(k:Int)(hs:Cg x)(G:CG x=true)(i:Nat)(hi:i<x.2.2.2.2.1.length)(F:BP (x,k)=(i:Int)):N9 (x,k)/\Qg (x,k) /\
 HV (x,k)=((x.1,x.2.1,x.2.2.1,x.2.2.2.1,x.2.2.2.2.1.eraseIdx i,x.2.2.2.2.2),JN (Cb x.2.2.2.2.1) (Cb (x.2.2.2.2.1.eraseIdx i)),true) /\
 Qj (x,k)=((x.1,x.2.1,x.2.2.1,x.2.2.2.1,x.2.2.2.2.1.eraseIdx i,x.2.2.2.2.2),JN (Cb x.2.2.2.2.1) (Cb (x.2.2.2.2.1.eraseIdx i)),true):=by
 have b:x.2.2.2.2.1.length<=1048576:=hs.2.2.1.1;obtain⟨U,R,O⟩:=Oi x hs;obtain⟨C,t⟩:=Xq (x,k) b;have I:t8 (U' true) (b_ (i:Int) 0)=false:=by
  rw[Bd,Ax,An,C7 (by omega)];rfl
 obtain⟨Z,c2⟩:=bL x hs;obtain⟨d1,Y⟩:=aR x hs;obtain⟨y,u⟩:=Zcd x.2.2.2.2.1 i hi b;have g:(x.2.2.2.2.1.eraseIdx i).length<=1048576:=by rw[List.length_eraseIdx];split<;>omega
 obtain⟨r1,r2,s,q⟩:=LG x.2.2.2.2.1 b;obtain⟨A,z,n,j⟩:=LG (x.2.2.2.2.1.eraseIdx i) g;rw[s]at q;rw[n]at j;obtain⟨N,M,L,J⟩:=ZdD (Cb x.2.2.2.2.1) (Cb (x.2.2.2.2.1.eraseIdx i)) q j;have D:=Xl x.2.2.2.2.1 (i:Int) (by omega) (by omega) b;have e:V_ .i64 (i:Int) 1=((i+1:Nat):Int):=by rw[B9 (by unfold Bl;omega)];omega
 rw[jK,Qg,jF,Qj,zD,Zaa];simp only[Tp,<- O,G,F,c2,Y,y,u,s,n,L,J,I,CD];refine⟨⟨C,U,(λh=>by cases h),λ_=>⟨Z,D,r1,A,N,trivial,trivial,trivial⟩⟩,⟨⟨R,λ_=>trivial,λ_=>t⟩,(λh=>by cases h),λ_=>⟨d1,t,⟨by omega,by omega,by rw[Aw];omega,by omega⟩,?_,?_,r2,z,M,trivial,trivial,trivial⟩⟩,trivial,trivial⟩
 ·rw[e];simp only[Aw,Iw];omega
 simp only[e,Aw,Iw,Jm,Hy,Nc,C9,Nk,AG];refine⟨by omega,by omega,by unfold AE;omega⟩
theorem kU(x:CP)(k:Int)(hs:Cg x):∃E L b,N9 (x,k)/\Qg (x,k)/\HV (x,k)=(E,L,b)/\Qj (x,k)=(E,L,b)/\Cg E/\me L:=by
 have A:x.2.2.2.2.1.length<=1048576:=hs.2.2.1.1;by_cases n:CG x=false\/BP (x,k)<0
 ·obtain⟨u,t,s,q⟩:=Zd3 x k hs n;exact⟨_,_,_,u,t,s,q,by simp[HH,Cg,DW,Hh,Ho,Ji],by simp[me]⟩
 have D:CG x=true:=by
  cases e:CG x with
  |true=>rfl
  |false=>exact absurd (.inl e) n
 rcases aU x k A with⟨h1,_⟩|⟨i,hi,C,_⟩
 ·exact absurd (.inr (by rw[h1];decide)) n
 obtain⟨u,t,s,q⟩:=lg x k hs D i hi C;have j:(x.2.2.2.2.1.eraseIdx i).length<=1048576:=by rw[List.length_eraseIdx];split<;>omega
 obtain⟨_,_,z,y⟩:=LG (x.2.2.2.2.1.eraseIdx i) j;rw[z]at y;refine⟨_,_,_,u,t,s,q,⟨hs.1,hs.2.1,⟨j,λa g=>hs.2.2.1.2 a ((List.eraseIdx_sublist _ _).subset g)⟩,trivial⟩,?_⟩;unfold JN;split
 ·exact⟨by simp,λa g=>by cases g⟩
 exact⟨by simp,λa g=>by
  rw[List.mem_singleton]at g;rw[g];exact⟨y,trivial⟩⟩
end
section
set_option maxRecDepth 20000
theorem Zhg {α S T:Type} {c:S×Int×T->Bool} {f:S×Int×T->S×Int×T} {p:S×Int×T->Prop} (x:List α) (d:α) (g:S×T->α->S×T) (b:S×T) (t:x.length<=2097152)
 (n:∀(s:S×T) (i:Nat),i<=x.length->c (s.1,(i:Int),s.2)=decide (i<x.length)) (q:∀(i:Nat),i<x.length->f (((x.take i).foldl g b).1,(i:Int),((x.take i).foldl g b).2)=((g ((x.take i).foldl g b) (x.getD i d)).1,V_ .i64 (i:Int) 1,(g ((x.take i).foldl g b) (x.getD i d)).2))
 (hp:∀(i:Nat),i<=x.length->p (((x.take i).foldl g b).1,(i:Int),((x.take i).foldl g b).2)):
 a_ c f p (b.1,0,b.2)/\Am c f (b.1,0,b.2)=((x.foldl g b).1,(x.length:Int),(x.foldl g b).2):=by
 have:=H4 (c:=c) (f:=f) (p:=p) x.length (λi=>(((x.take i).foldl g b).1,(i:Int),((x.take i).foldl g b).2)) (x0:=(b.1,0,b.2)) rfl (λk j=>by
  refine⟨hp k (by omega),by rw[n _ k (by omega)];simpa using j,?_⟩;rw[q k j,B9 (by unfold Bl;omega),<- J5 x d j,List.foldl_append];simp) ⟨hp _ (by omega),by rw[n _ _ (by omega)];simp⟩
 refine⟨this.1,?_⟩;rw[this.2,F6]
def FL(s:List Cy×Cy)(r:Cy):List Cy×Cy:=(if s.2=r then s.1 else s.1++[r],r)
def Mq(p:Cy)(l:List Cy):List Cy:=(l.foldl FL ([],p)).1
theorem ZhJ(p:Cy)(l:List Cy)(r:Cy):Mq p (l++[r])=if (l.foldl FL ([],p)).2=r then Mq p l else Mq p l++[r]:=by
 unfold Mq;rw[List.foldl_append];rfl
theorem ZeZ{α:Type}(l:List α):l=[]\/∃k a,l=k++[a]:=by
 rcases List.eq_nil_or_concat l with h|⟨k,a,h⟩
 ·exact .inl h
 exact .inr ⟨k,a,by rw[h,List.concat_eq_append]⟩
theorem ou(P:Cy->Prop)(p:Cy)(hp:P p)(l:List Cy)(h:∀r∈l,P r):(l.foldl FL ([],p)).1.length<=l.length/\(∀r∈(l.foldl FL ([],p)).1,P r)/\P (l.foldl FL ([],p)).2:=by
 have go : ∀(l:List Cy) (s:List Cy×Cy),(∀r∈l,P r)->(∀r∈s.1,P r)->P s.2->(l.foldl FL s).1.length<=s.1.length+l.length/\(∀r∈(l.foldl FL s).1,P r)/\P (l.foldl FL s).2:=by
  intro l;induction l with
  |nil=>intro s _ g j;exact⟨by simp,g,j⟩
  | cons a l ih=>
    intro s h1 g j;have i:=h1 a Hx;have:=ih (FL s a) (λr b=>h1 r (List.mem_cons_of_mem _ b)) (by
     intro r b;unfold FL at b;simp only at b;split at b
     ·exact g r b
     rw[CI,List.mem_singleton]at b;rcases b with b|rfl
     ·exact g r b
     exact i) i
    refine⟨?_,this.2⟩;have q:=this.1;have n:(FL s a).1.length<=s.1.length+1:=by
     unfold FL;simp only;split
     ·omega
     simp
    rw[List.foldl_cons,A0];omega
 have:=go l ([],p) h (by simp) hp;exact⟨by simpa using this.1,this.2⟩
def Gj(r:Cy):Prop:=r.2.length<=1048576
theorem bn:∀(l:List Cy) (s:List Cy×Cy),(l.foldl FL s).2=Dr l s.2
 |[],s=>rfl
 |r::l,s=>by rw[List.foldl_cons,bn l];rfl
theorem nO(p:Cy):∀(n:Nat) (l:List Cy),l.length=n->UT p l=Mq p l
 | 0,l,h=>by
   have:l=[]:=Dq h;subst this;rfl
 | n + 1,l,h=>by
   rcases ZeZ l with rfl|⟨k,r,rfl⟩
   ·cases h
   have g:=nO p n k (by simpa using h);rw[ZhJ,bn,<- g];unfold UT;rw[b7,Gb];have e:(Du k p 0).map (λi=>(k++[r]).getD i (0,[]))=(Du k p 0).map λi=>k.getD i (0,[]):=by
    refine List.map_congr_left λi hi=>?_;have:=((XZ k p 0).2 i hi).2;rw[C0,Bp (by omega),C0]
   rw[e];by_cases b:Dr k p=r
   ·simp[b]
   simp[b]
theorem ZdU(p:Cy)(l:List Cy)(hp:Gj p)(u:l.length<=2097152)(h:∀r∈l,Gj r):PT (p,l)/\Mt p l/\P3 (p,l)=Mq p l/\Mu p l=Mq p l:=by
 have q:∀i:Nat,So l (R_ (i:Int)) (0,[])=l.getD i (0,[]):=λi=>by rw[AJ,Aw,AG]
 have b:=λi:Nat=>ou Gj p hp (l.take i) λr t=>h r (LZ t);have j:∀i:Nat,(l.take i).length<=2097152:=λi=>by rw[C9];omega
 have z:∀r:Cy,Qu r=r:=λr=>by rw[jV,BL,CL]
 have y:∀(s:List Cy×Cy) (r:Cy),Gj s.2->Z' (U' (Gp (s.2,r))) (s.1++[r]) s.1=(FL s r).1:=λs r hs=>by
  rw[aG _ _ hs,BM,Ax];unfold FL;by_cases e:s.2=r
  ·simp[e]
  simp[e]
 obtain⟨C,A⟩:=Zhg (c:=NR (p,l)) (f:=NT (p,l)) (p:=PF (p,l)) l (0,[]) FL ([],p) (by omega)
  (λs i hi=>by simp only[NR,An,Al,CX])
  (λi hi=>by
   obtain⟨_,_,n⟩:=b i;have:=y _ (l.getD i (0,[])) n;simp only[NT,q,kz,z,BL];rw[this];rfl) (λi hi=>by
   obtain⟨F,_,n⟩:=b i;have D:=j i;simp only[PF,q,An,Al,Ay];refine⟨λx=>?_,λ_=>trivial⟩;have hm:=h _ (Cd l i (0,[]) (by omega));have g:((0:Int)<=(i:Int)/\(i:Int)<(l.length:Int))/\R_ (i:Int)<l.length:=⟨⟨by omega,x⟩,by rw[Aw];omega⟩;refine⟨⟨g.1,g.2,(WJ _ _ n).1,⟨λ_=>⟨g.1,g.2,?_,?_⟩,λ_=>trivial⟩⟩,g⟩
   ·rw[jQ];unfold AE Gj at *;simp only[A7];omega
   unfold AE;simp only[A0,A7];omega)
 rw[iz,iw,Zw,Zv];refine⟨C,⟨u,λi hi=>?_⟩,by rw[A];rfl,nO p _ l rfl⟩;have hs:Gj (Dr (l.take i) p):=by
  have:=(b i).2.2;rwa [bn]at this
 exact⟨(WJ _ _ hs).2,aG _ _ hs⟩
end
def YH:List DC->Bool
 |[]=>true|c::r=>!c.d&&YH r
theorem nt:∀ {Y_:List DV} {l:List DC},Chg (AN Y_) l->YH l=true->l.length=Y_.length->l=AN Y_
 |[],[],_,_,_=>rfl
 |[],_::_,_,_,h=>by simp at h
 |_::_,[],_,_,h=>by simp at h
 | v::Y_,c::l,h,hc,hl=>by
   simp only[YH,Aj,Br]at hc;have h1:c=⟨false,v⟩:=h.1.resolve_left (by rw[hc.1];simp);rw[h1,nt h.2 hc.2 (by simpa using hl)];rfl
def gx(n:Nat)(q:QT)(cs:List (Ql×CT))(res:List ARes)(st:DS):Option (q.D×AgX (HM cs)):=
 match sj st res with
 | some (v,f4)=>if v.ok&&!v.q_ then (match f4.hp with
   | [Y_,b2]=>if YH b2&&b2.length == n then (match Pg cs Y_ with
     | some vs=>(match q.of v,Ix (HM cs) vs with
       |some y,some b=>some (y,b)
       |_,_=>none)
     |none=>none)else none
   |_=>none)else none
 |none=>none
def UZ(f:DFun)(hs:List HT)(c2 cs:List (Ql×CT))(q:QT)(x:TuX (.agg cs::.agg c2::hs)):PX×Option (q.D×AgX (HM cs)):=
 match ED (.agg cs::.agg c2::hs) x with
 |.agg Y_::.agg b2::r=>(dev f.body ⟨news (.ptr 0 0::r)++Kd (f.nslots-f.nparams),Kc f.nbox,[AN Y_,AN b2]⟩).valR (gx c2.length q cs f.res)|_=>(.ff,none)
def RB(f:DFun)(hs:List HT)(c2 cs:List (Ql×CT))(q:QT)(x:TuX (.agg cs::.agg c2::hs)):q.D×AgX (HM cs):=(UZ f hs c2 cs q x).2.getD (q.dflt,e9 (HM cs))
def Rp(f:DFun)(hs:List HT)(c2 cs:List (Ql×CT))(q:QT)(x:TuX (.agg cs::.agg c2::hs)):Prop:=(UZ f hs c2 cs q x).1.den
def fp(f:DFun)(hs:List HT)(c2 cs:List (Ql×CT))(q:QT)(x:TuX (.agg cs::.agg c2::hs)):Bool:=(UZ f hs c2 cs q x).2.isSome
def fL(f:DFun)(hs:List HT)(c2 cs:List (Ql×CT)):Bool:=hs.length+1 == f.nparams&&!f.pure&&Nat.blt 0 cs.length&&Nat.blt 0 c2.length
def TY(hs:List HT)(c2 cs:List (Ql×CT))(q:QT)(g:TuX (.agg cs::.agg c2::hs)->Prop)(v:TuX (.agg cs::.agg c2::hs)->q.D×AgX (HM cs)):GO:=λargs b=>match args,b with
 | a::r,[Y_,b2]=>if a.isP0 then (match Iy (.agg cs::.agg c2::hs) (.agg Y_::.agg b2::r)with
   |some x=>some (.p (g x),q.dv (v x).1,[JQ cs (De (HM cs) (v x).2)])
   |none=>none)else none
 |_,_=>none
theorem Ze2(cs c2:List (Ql×CT))(hs:List HT)(x:TuX (.agg cs::.agg c2::hs)):∃r b g,ED (.agg cs::.agg c2::hs) x= .agg (De cs b)::.agg (De c2 g)::r:=by
 cases hs with
 |nil=>exact⟨[],x.1,x.2,rfl⟩
 |cons a r=>exact⟨ED (a::r) x.2.2,x.1,x.2.1,rfl⟩
theorem oB:∀(l:List DV),(AN l).length=l.length
 |[]=>rfl
 |_::r=>by simp only[AN,A0,oB r]
theorem nH:∀ {l:List DV} {p:List PV},EL (AN l) p->(∀v∈l,v≠.any)->p=DV.d8 l
 |[],[],_,_=>rfl
 |[],_::_,h,_=>h.elim
 |_::_,[],h,_=>h.elim
 | v :: l,x::p,h,hk=>by
   have h1:x=v.enc:=by
    rcases h.1 with h1|h1
    ·exact absurd h1 (hk v (Hx ..))
    exact h1
   rw[h1,nH h.2 λw b=>hk w (List.mem_cons_of_mem _ b)];rfl
theorem bl {f : DFun} {hs : List HT} {c2 cs:List (Ql×CT)} {q:QT} (ho:AllD f.body.t_) (t:fL f hs c2 cs=true) (u:∀x,fp f hs c2 cs q x=true) {ok:TuX (.agg cs::.agg c2::hs)->Prop} {v:TuX (.agg cs::.agg c2::hs)->q.D×AgX (HM cs)} (F:∀x,ok x->Rp f hs c2 cs q x) (hv:∀x,RB f hs c2 cs q x=v x):Q6 (Jv f.er) (TY hs c2 cs q ok v):=by
 intro args b g w H Q h hg hQ;simp only[fL,Aj,Bb,Br]at t;unfold TY at h;split at h
 ·rename_i a r Y_ b2;split at h
  ·rename_i ha;have ha:a= .ptr 0 0:=(by unfold DV.isP0 at ha;split at ha<;>first|rfl|cases ha);subst ha;cases hx:Iy (.agg cs::.agg c2::hs) (.agg Y_::.agg b2::r)with
   |none=>rw[hx]at h;cases h
   | some x=>
     rw[hx]at h;simp only[Ap,Aq]at h;obtain⟨rfl,rfl,rfl⟩:=h;have I:=Y0 hx;obtain⟨r',b,b3,hd⟩:=Ze2 cs c2 hs x;rw[hd]at I;simp only[DV.d8,DV.enc,GJ,PV.agg.injEq]at I;have hlr:r'.length=hs.length:=by
      have:=Tv (.agg cs::.agg c2::hs) x;rw[hd]at this;simpa using this
     have u:=u x;have F:=F x hg;unfold fp at u;unfold Rp at F;have n:=hv x;unfold RB at n;unfold UZ at u F n;rw[hd]at u F n;simp only at u F n;cases Y:(dev f.body ⟨news (.ptr 0 0::r')++Kd (f.nslots-f.nparams),Kc f.nbox,[AN (De cs b),AN (De c2 b3)]⟩).valR (gx c2.length q cs f.res)with
     | mk g o=>
       rw[Y]at u F n;cases o with
       |none=>cases u
       | some y=>
         simp only[Jr]at n;obtain⟨k1,e,st,k2,k3,j⟩:=YE Y F;have Z:d_ _ st:=YA (H7 f.body _) k2;show Jv f.er (PV.ptr 0 0::DV.d8 r) [DV.d8 Y_,DV.d8 b2] Q;rw[<- I.1,<- I.2.1,<- I.2.2];refine⟨by simp only[A0,F1,hlr];exact t.1.1.1,λhp=>absurd hp (by simp[DFun.er,t.1.1.2]),?_⟩;refine HB f.body ho (d:=⟨news (.ptr 0 0::r')++Kd (f.nslots-f.nparams),Kc f.nbox,[AN (De cs b),AN (De c2 b3)]⟩) (s:=⟨DV.d8 (.ptr 0 0::r')++JH (f.nslots-f.nparams),Mf f.nbox,[DV.d8 (De cs b),DV.d8 (De c2 b3)]⟩) ⟨(EL.news _).append (X4 _),Ya _,.inr (eG _),.inr (eG _),trivial⟩ k1 k2 λs' hs'=>?_;unfold gx at j;split at j
         ·rename_i v0 f4 hr; split at j
          ·rename_i O; simp only[Aj,Br]at O;split at j
           ·rename_i w_ b2' hblk;split at j;rename_i J;split at j
            ·rename_i vs N;split at j
             ·rename_i y0 b0 hy0 hb0;simp only[Ap]at j;subst j;obtain⟨⟨s2,e2,e3⟩,hch2⟩:=Zjq hs' hr O.1;have L:=(Z.trans hch2).hp;have C:=e3.hp;rw[hblk]at L C;cases G:s2.hp with
              |nil=>rw[G]at C;exact C.elim
              | cons p l=>
                rw[G]at C;have hl0:∃p2,l=[p2]:=by
                 cases l with
                 |nil=>exact C.2.elim
                 | cons p2 l=>cases l with
                   |nil=>exact⟨p2,rfl⟩
                   |cons=>exact C.2.2.elim
                obtain⟨p2,rfl⟩:=hl0;obtain⟨kc1,M⟩:=bq c2 b3;simp only[Aj,Bb]at J;have hb2:=nt L.2.1 J.1 (by rw[J.2,M]);have A:=C.2.1;rw[hb2]at A;have R:=nH (A.to (by rw[oB,M];exact Dp t.2)) kc1;have f9:0<w_.length:=by
                 cases w_ with
                 | nil=>cases cs with
                   |nil=>exact absurd t.1.2 (by decide)
                   |cons a cs=>obtain⟨q0,t0⟩:=a;cases q0<;>cases N
                 |cons=>simp
                have hEL:=C.1.to f9;obtain⟨kn1,kn2⟩:=Xb hb0;obtain⟨kb1,kb2⟩:=bq cs b;have hpb:=cU cs hEL L.1 N (fX hb0) kn1 kn2 kb2 kb1;obtain⟨h1,_⟩:=fV hy0;have hQ':Q (q.dv y0).enc (HA (Km [Y_,b2] [JQ cs (De (HM cs) b0)])):=by
                 have:=hQ;rw[<- n]at this;exact this
                have U : DV.d8 (Gi (De cs b) (JQ cs (De (HM cs) b0)))=DV.d8 (Gi Y_ (JQ cs (De (HM cs) b0))):=by
                 have:∀(a c l:List DV),DV.d8 a=DV.d8 c->DV.d8 (Gi a l)=DV.d8 (Gi c l):=by
                  intro a;induction a with
                  | nil=>intro c l h;cases c with
                    |nil=>rfl
                    |cons=>cases h
                  | cons x a ih=>
                    intro c l h;cases c with
                    |nil=>cases h
                    | cons z c=>
                      simp only[DV.d8,GJ]at h;cases l with
                      |nil=>simp only[Gi,DV.d8,h.1,h.2]
                      | cons w l=>
                        simp only[Gi,DV.d8,ih c l h.2];by_cases hw:w.isAny=true
                        ·rw[Ad hw,Ad hw,h.1]
                        rw[Ae hw,Ae hw]
                 exact this _ _ _ I.1
                have fin:(match Mg s' f.res with|some (v,st)=>if f.pure=true then v.flt=true/\Q v []else Q v st.hp|none=>False):=by
                 rw[e2];simp only[t.1.1.2,AZ,A5,G];rw[<- h1,hpb,U,R,I.2.1];exact hQ'
                cases e with
                |normal=>exact fin
                |ret=>exact fin
                |exit i=>exact absurd rfl (k3 i)
             cases j
            ·cases j
            cases j
           cases j
          cases j
         cases j
  cases h
 cases h
attribute [irreducible] UZ RB Rp fp fL
section
set_option maxRecDepth 8000
def vt:d5:=(A_ [0] 2 [Q_ Ar] (A_ [2] 3 [C_ 0,I' B0 [3,AD,(.c (.int .i64 36))],C_ 4,F' 5 (Q_ 0),F' 5 (Nm 6 (.c (.int .i64 39))),L_ 5 AU 7,C_ 8,F' 9 (Q_ 0),F' 9 (Nm 10 (.c (.int .i64 42))),L_ 9 AU 11,G_ 2 (C_ 12)] .ret))
def KO:Fn:=⟨⟨1,13,0,true,[.tmp 2],vt⟩,[.one .Z_ (.int .i64)],.one (.one .own (.bool))⟩
theorem uS:KO.A:=AK ⟨Gt,trivial⟩
def JV:Int->Bool:=KO.V
def ZE:Int->Prop:=KO.O
theorem uF:KO.B:=AM ⟨Gv,trivial⟩ (by kernel_rfl) (λx=>by kernel_rfl)
def Zcj:d5:=(A_ [4,3,0] 3 [O' 0 4 1,B_ (.d7 1 [Ab,Ab,Ab,Ab])] (A_ [4,3,0] 5 [J' 2 3,G' (rg 1) (J_ 0 5),C_ 0,G' [2] (B_ (.z_ 7)),G' [2,3] (J' 5 8),G' [2,3,4] (O_ 9),G' (rg 6) (B_ (.bin .or 6 10)),G' (rg 7) (J' 2 3),G' (rg 8) (E_ (.U_ 0 1 12 11))] (A_ [4,3,0] 13 [C_ 0,B_ (.z_ 13),J' 5 14,E_ (.f6 1 15 AQ)] (.seq [4,3,0] (A_ [19,4,3,0] 16 [J' 1 3,J_ 0 16,I' KO [17],P' 18] (.cond 19 (At 20 [C_ 0,B_ (.z_ 20),J' 6 21,E_ (.f6 1 22 Ar)]) .skip)) (.seq [4,3] (A_ [37,4,3] 23 [C_ 0,B_ (.z_ 23),J' 6 24,O_ 25,C_ 26,F_ 27 (J' 1 3),F_ 27 (J_ 0 28),F_ 27 (B_ (.bin .leq 29 (.c (.int .i64 26)))),L_ 27 30 Ar,C_ 31,F_ 32 (J' 2 3),F_ 32 (J_ 0 33),F_ 32 (B_ (.bin .andNot 34 (.c (.int .i64 2)))),F_ 32 (Nm 35 AQ),L_ 32 36 Ar] (.cond 37 (At 38 [J' 2 3,E_ (.U_ 0 1 38 (.c (.int .i64 2)))]) .skip)) (A_ [4] 39 [C' (.d6 0 (some 4) 3),E_ (.U_ 1 4 4 39)] .ret))))))
def ML:DFun:=⟨2,40,2,false,[.cell 4 (some 4)],Zcj⟩
@[irreducible] def Qx:Bg:=ER ML.er.er
@[irreducible] def S0:Dl:=Jv ML.er
theorem ZcT:Kf Qx S0:=by unfold Qx S0;exact Xo (f:=ML.er) ⟨uS,trivial⟩
def WU:List HT:=[.agg [Av,Av,Av,Av]]
def WX:List (Ql×CT):=[AF,(.own,.sl (.one (.sl Az))),(.own,.sl (.one (.sl AO))),AF,(.own,.sl AS),AF,(.own,.bool)]
def WV:QT:=.one (.agg [AF,AF,AF,AF])
def WH:List (Ql×CT):=[AF,AF,AF,AF]
@[irreducible] def S6(x:Rv):CF×Bw:=(shut λx=>RB ML WU WH WX WV x).1 x
@[irreducible] def SW(x:Rv):Prop:=(shut λx=>Rp ML WU WH WX WV x).1 x
def kH:GO:=TY WU WH WX WV SW S6
theorem ZcG:Q6 S0 kH:=by unfold S0;exact bl (f:=ML) (hs:=WU) (c2:=WH) (cs:=WX) (q:=WV) ⟨uF,trivial⟩ (by kernel_rfl) (λx=>by kernel_rfl) (λx h=>by unfold SW at h;exact Eq.mp (congrFun (shut _).2 x) h) (λx=>by unfold S6;exact(congrFun (shut _).2 x).symm)
def wW:d5:=(A_ [4,3,0] 3 [O' 0 4 1,B_ (.d7 1 [Ab,Ab,Ab,Ab])] (.seq [4,3] (A_ [6,4,3,0] 5 [J' 0 3,J_ 0 5] (.block 0 (A_ [7,6,4,3,0] 8 [Nm 6 (.c (.int .i64 2)),G_ 7 (C_ 8)] (.cond 7 (A_ [11,4,3,0] 9 [J' 1 3,J_ 0 9,B_ (.bin .gtr 10 AQ)] (.cond 11 (A_ [4] 12 [C_ 0,K_ 0 4 3,I_ (.callp false Qx S0 kH [12,13]),E_ (.U_ 1 4 4 14)] .ret) .skip)) (A_ [15,6,4,3,0] 16 [Nm 6 (.c (.int .i64 4)),G_ 15 (C_ 16)] (.cond 15 (At 17 [C_ 0,C_ 0,G' [1] (B_ (.z_ 18)),G' [1,2] (J' 3 19),G' [1,2,3] (O_ 20),J' 3 3,G' [5] (J_ 0 22),G' [5,6] (B_ (.bin .shl AD 23)),G' [1,2,3,4,5,6,7] (B_ (.bin .xor 21 24)),G' (rg 9) (B_ (.z_ 17)),G' (rg 10) (J' 3 26),G' (rg 11) (E_ (.f6 1 27 25))]) (A_ [28,6,4,3,0] 29 [Nm 6 (.c (.int .i64 5)),G_ 28 (C_ 29)] (.cond 28 (At 30 [C_ 0,J' 3 3,J_ 0 31,B_ (.bin .shl AD 32),B_ (.bin .andNot 33 AD),B_ (.z_ 30),J' 3 35,E_ (.f6 1 36 34)]) (A_ [37,6,4,3,0] 38 [Nm 6 (.c (.int .i64 8)),G_ 37 (C_ 38)] (.cond 37 (A_ [48,4,3,0] 39 [C_ 0,G' (rg 1) (B_ (.z_ 39)),G' (rg 2) (J' 5 40),G' (rg 3) (O_ 41),J' 2 3,G' [4] (J_ 0 43),G' (rg 6) (B_ (.bin .and 42 44)),J' 2 3,G' [7] (J_ 0 46),G' (rg 9) (Nm 45 47)] (.cond 48 (At 49 [C_ 0,C_ 0,G' [1] (B_ (.z_ 50)),G' [1,2] (J' 5 51),G' [1,2,3] (O_ 52),J' 2 3,G' [5] (J_ 0 54),G' [1,2,3,4,5,6] (B_ (.bin .andNot 53 55)),G' (rg 8) (B_ (.z_ 49)),G' (rg 9) (J' 5 57),G' (rg 10) (E_ (.f6 1 58 56))]) (At 59 [C_ 0,C_ 0,G' [1] (B_ (.z_ 60)),G' [1,2] (J' 5 61),G' [1,2,3] (O_ 62),J' 2 3,G' [5] (J_ 0 64),G' [1,2,3,4,5,6] (B_ (.bin .or 63 65)),G' (rg 8) (B_ (.z_ 59)),G' (rg 9) (J' 5 67),G' (rg 10) (E_ (.f6 1 68 66))]))) (A_ [69,4,3,0] 70 [Nm 6 (.c (.int .i64 10)),G_ 69 (C_ 70)] (.cond 69 (At 71 [C_ 0,C_ 0,B_ (.z_ 72),J' 6 73,O_ 74,P' 75,B_ (.z_ 71),J' 6 77,E_ (.f6 1 78 76)]) .skip)))))))))))) (A_ [4] 79 [C' (.d6 0 (some 4) 3),E_ (.U_ 1 4 4 79)] .ret)))
def ME:DFun:=⟨2,80,2,false,[.cell 4 (some 4)],wW⟩
@[irreducible] def Qb:Bg:=ER ME.er.er
@[irreducible] def SI:Dl:=Jv ME.er
theorem yP:Kf Qb SI:=by unfold Qb SI;exact Xo (f:=ME.er) ⟨ZcT,trivial⟩
def Wa:List HT:=[.agg [Av,Av,Av,Av]]
def V9:List (Ql×CT):=[AF,(.own,.sl (.one (.sl Az))),(.own,.sl (.one (.sl AO))),AF,(.own,.sl AS),AF,(.own,.bool)]
def Wh:QT:=.one (.agg [AF,AF,AF,AF])
def VI:List (Ql×CT):=[AF,AF,AF,AF]
@[irreducible] def Qe(x:Rv):CF×Bw:=(shut λx=>RB ME Wa VI V9 Wh x).1 x
@[irreducible] def P6(x:Rv):Prop:=(shut λx=>Rp ME Wa VI V9 Wh x).1 x
def jo:GO:=TY Wa VI V9 Wh P6 Qe
theorem yU:Q6 SI jo:=by unfold SI;exact bl (f:=ME) (hs:=Wa) (c2:=VI) (cs:=V9) (q:=Wh) ⟨ZcG,trivial⟩ (by kernel_rfl) (λx=>by kernel_rfl) (λx h=>by unfold P6 at h;exact Eq.mp (congrFun (shut _).2 x) h) (λx=>by unfold Qe;exact(congrFun (shut _).2 x).symm)
def Zci:d5:=(A_ [6,3,2,1] 3 [O' 0 7 0,H_ 6 (B_ (.d7 1 [Ab,.X_,.X_,Ab,.X_,Ab,CB])),Q_ (.c .X_),Q_ Ar] (.seq [6,3,2,1] (A_ [29,6,3,2,1] 12 [K_ 0 7 3,I' G2 [12],P' 13,C_ 14,F' 15 (Q_ 1),F' 15 (J' 0 3),F' 15 (J' 0 17),F' 15 (J_ 0 18),F' 15 (B_ (.bin .sub 19 AD)),F' 15 (I' B0 [16,AQ,20]),F' 15 (P' 21),L_ 15 AU 22,C_ 23,F' 24 (K_ 0 7 3),F' 24 (Q_ 1),F' 24 (I' G6 [25,26]),F' 24 (B_ (.bin .geq 27 AQ)),L_ 24 AU 28] (.cond 29 (A_ [8,7,6] 30 [B_ (.build [Ab,.X_,.X_,Ab,.X_,Ab,CB] []),Q' (.cons (.int .i64) (.one (.sl (.one (.int .i64))))) (.d4 2 0 [] []),E_ (.U_ 1 7 6 30),H_ 7 (C_ 31),Q_ Ar] .ret) .skip)) (A_ [9,6,3,2,1] 32 [K_ 0 7 3,I' G8 [32],G_ 9 (B_ (.allocH [Ab,.X_,.X_,Ab,.X_,Ab,CB])),E_ (.f6 7 9 33)] (.seq [10,9,6,3,2,1] (.region [oa 9 10 (.allocH [Ab,Ab,Ab,Ab]),oa 0 34 (.f5 0 3),xA 1 35 (.d6 0 (some 2) 34) (rg 1),oa 2 36 (.f5 3 3),xA 3 37 (.d6 0 none 36) [2],oa 4 38 (.f5 4 3),xA 5 39 (.d6 0 none 38) [4],om 7 41 1,xF 6 40 K7 [37,39] [2,3,4,5],xF 8 42 Lg [35,40,41] (rg 8),xS 10 (.f6 4 10 42) (rg 10)]) (.seq [10,9,6,3,1] (A_ [43,10,9,6,3,1] 43 [C_ 2] (.cond 43 (At 44 [B_ (.g9 (some 4) 10),I' Lw [44],E_ (.f6 4 10 45)]) (At 46 [B_ (.g9 (some 4) 10),I' LL [46],E_ (.f6 4 10 47)]))) (A_ [10,9,6,3,1] 48 [B_ (.g9 (some 4) 10),I_ (.callp false Qb SI jo [9,48]),E_ (.f6 4 10 49)] (A_ [10,9,6,3] 50 [J' 4 9,C' (.g9 none 50),C_ 1,C' (.g9 (some 4) 10),B_ (.build [Ab,Ab,Ab,Ab,Ab] [(0,1,52),(1,4,53)]),Q' AS (.d4 5 1 [Ab,Ab,Ab,Ab,Ab] [(0,5,54)]),B_ (.app 5 51 55),J' 4 9,E_ (.f6 1 57 56)] (A_ [11,10,9,6,3] 58 [Q' (.cons (.int .i64) (.one (.sl (.one (.int .i64))))) (.d4 2 0 [] []),G_ 11 (C_ 58)] (.seq [11,9,6,3] (A_ [69,11,10,9,6,3] 59 [J' 0 10,O_ 59,Nm 60 (.c (.int .i64 9)),C_ 61,F_ 62 (J' 3 10),F_ 62 (O_ 63),F_ 62 (J' 2 3),F_ 62 (J_ 0 65),F_ 62 (L' 66),F_ 62 (M' 64 67),L_ 62 68 Ar] (.cond 69 (At 70 [J' 4 9,G' (rg 1) (O_ 70),J' 2 3,G' [2] (J_ 0 72),J' 3 10,G' [4] (O_ 74),G' [2,3,4,5] (N_ 1 73 75),G' [2,3,4,5,6] (O_ 76),G' (rg 8) (I' KD [71,77]),G_ 11 (G' (rg 9) (Q_ 78))]) .skip)) (A_ [11,9,6,3] 79 [C_ 11,J' 4 9,O_ 80,I' E3 [81],Q' (.cons (.int .i64) (.one (.sl (.one (.int .i64))))) (.d4 2 1 [Ab,.X_] [(0,2,82)]),B_ (.app 2 79 83),G_ 11 (C_ 84)] (.seq [8,7,6] (.region [oa 0 85 (.g9 (some 7) 9),oa 1 86 (.f5 4 3),xA 2 87 (.d6 0 none 86) [1],on 4 89 11,xF 3 88 E3 [87] [1,2],xF 5 90 IQ [88,89] [1,2,3,4],⟨6,none,.clm 9 85 (.U_ 1 7 6 85),none,[0,1,2,3,4,5]⟩,xA 7 7 (.mv 90) (rg 7),xA 8 8 (.mv AU) (rg 8)]) .ret)))))))))))
def LI:Fn:=⟨⟨3,91,2,false,[.cell 6 (some 7),.tmp 7,.tmp 8],Zci⟩,[.agg [Av,(.Z_,.sl (.one (.sl Az))),(.Z_,.sl (.one (.sl AO))),Av,(.Z_,.sl AS),Av,(.Z_,.bool)],.one .Z_ (.int .i64),.one .Z_ (.bool)],.f8 [.agg [AF,(.own,.sl (.one (.sl Az))),(.own,.sl (.one (.sl AO))),AF,(.own,.sl AS),AF,(.own,.bool)],.one .own (.sl (.cons (.int .i64) (.one (.sl (.one (.int .i64)))))),.one .own (.bool)]⟩
theorem Zce:LI.A:=AK ⟨Z3,Gt,kc,aC,xt,yX,ZaX,Zcz,yP,tz,Sq,Sq,iJ,trivial⟩
def EN:Fj->Bw×BQ×Bool:=LI.V
def Qr:Fj->Prop:=LI.O
theorem Zb2:LI.B:=AM ⟨Z0,Gv,jU,aB,yb,xL,ZbA,ZcH,yU,ta,Sj,Sj,iv,trivial⟩ (by kernel_rfl) (λx=>by kernel_rfl)
def uO:d5:=(A_ [0] 2 [Q_ Ar] (A_ [2] 3 [C_ 0,B_ (.bin .geq 3 AD),C_ 4,F_ 5 (Q_ 0),F_ 5 (B_ (.bin .leq 6 (.c (.int .i64 36)))),L_ 5 7 Ar,C_ 8,F' 9 (Q_ 0),F' 9 (Nm 10 (.c (.int .i64 39))),L_ 9 AU 11,C_ 12,F' 13 (Q_ 0),F' 13 (Nm 14 (.c (.int .i64 42))),L_ 13 AU 15,G_ 2 (C_ 16)] .ret))
def IM:Fn:=⟨⟨1,17,0,true,[.tmp 2],uO⟩,[.one .Z_ (.int .i64)],.one (.one .own (.bool))⟩
theorem ve:IM.A:=AK trivial
def MB:Int->Bool:=IM.V
def ZF:Int->Prop:=IM.O
theorem vn:IM.B:=AM trivial (by kernel_rfl) (λx=>by kernel_rfl)
def ZaI:d5:=(A_ [4,3,0] 3 [O' 0 4 1,B_ (.d7 1 [Ab,Ab,Ab,Ab])] (.seq [4,3] (A_ [6,4,3,0] 5 [J' 0 3,J_ 0 5] (.block 0 (A_ [7,6,4,3,0] 8 [Nm 6 (.c (.int .i64 2)),G_ 7 (C_ 8)] (.cond 7 (.seq [4,3,0] (A_ [11,4,3,0] 9 [J' 1 3,J_ 0 9,Nm 10 AQ] (.cond 11 (A_ [4] 12 [C' (.d6 0 (some 4) 3),E_ (.U_ 1 4 4 12)] .ret) .skip)) (A_ [4,3,0] 13 [J' 2 3,G' (rg 1) (J_ 0 13),C_ 0,G' [2] (B_ (.z_ 15)),G' [2,3] (J' 5 16),G' [2,3,4] (O_ 17),G' (rg 6) (B_ (.bin .or 14 18)),G' (rg 7) (J' 2 3),G' (rg 8) (E_ (.U_ 0 1 20 19))] (A_ [4,3,0] 21 [C_ 0,B_ (.z_ 21),J' 5 22,E_ (.f6 1 23 AQ)] (A_ [4,3,0] 24 [C_ 0,C_ 0,B_ (.z_ 25),J' 6 26,O_ 27,C_ 28,F_ 29 (J' 1 3),F_ 29 (J_ 0 30),F_ 29 (I' IM [31]),L_ 29 32 Ar,B_ (.z_ 24),J' 6 34,E_ (.f6 1 35 33)] (A_ [50,4,3] 36 [C_ 0,B_ (.z_ 36),J' 6 37,O_ 38,C_ 39,F_ 40 (J' 1 3),F_ 40 (J_ 0 41),F_ 40 (B_ (.bin .leq 42 (.c (.int .i64 26)))),L_ 40 43 Ar,C_ 44,F_ 45 (J' 2 3),F_ 45 (J_ 0 46),F_ 45 (B_ (.bin .andNot 47 (.c (.int .i64 2)))),F_ 45 (Nm 48 AQ),L_ 45 49 Ar] (.cond 50 (At 51 [J' 2 3,E_ (.U_ 0 1 51 (.c (.int .i64 2)))]) .skip)))))) (A_ [52,6,4,3,0] 53 [Nm 6 (.c (.int .i64 4)),G_ 52 (C_ 53)] (.cond 52 (At 54 [C_ 0,G' (rg 1) (B_ (.z_ 54)),G' (rg 2) (J' 3 55),G' (rg 3) (O_ 56),J' 3 3,G' [4] (J_ 0 58),G' [4,5] (B_ (.bin .shl AD 59)),G' (rg 7) (B_ (.bin .xor 57 60)),G' (rg 8) (B_ (.z_ 54)),G' (rg 9) (J' 3 62),G' (rg 10) (E_ (.f6 1 63 61))]) (A_ [64,6,4,3,0] 65 [Nm 6 (.c (.int .i64 5)),G_ 64 (C_ 65)] (.cond 64 (At 66 [C_ 0,J' 3 3,J_ 0 67,B_ (.bin .shl AD 68),B_ (.bin .andNot 69 AD),B_ (.z_ 66),J' 3 71,E_ (.f6 1 72 70)]) (A_ [73,6,4,3,0] 74 [Nm 6 (.c (.int .i64 8)),G_ 73 (C_ 74)] (.cond 73 (A_ [84,4,3,0] 75 [C_ 0,G' (rg 1) (B_ (.z_ 75)),G' (rg 2) (J' 5 76),G' (rg 3) (O_ 77),J' 2 3,G' [4] (J_ 0 79),G' (rg 6) (B_ (.bin .and 78 80)),J' 2 3,G' [7] (J_ 0 82),G' (rg 9) (Nm 81 83)] (.cond 84 (At 85 [C_ 0,G' (rg 1) (B_ (.z_ 85)),G' (rg 2) (J' 5 86),G' (rg 3) (O_ 87),J' 2 3,G' [4] (J_ 0 89),G' (rg 6) (B_ (.bin .andNot 88 90)),G' (rg 7) (B_ (.z_ 85)),G' (rg 8) (J' 5 92),G' (rg 9) (E_ (.f6 1 93 91))]) (At 94 [C_ 0,G' (rg 1) (B_ (.z_ 94)),G' (rg 2) (J' 5 95),G' (rg 3) (O_ 96),J' 2 3,G' [4] (J_ 0 98),G' (rg 6) (B_ (.bin .or 97 99)),G' (rg 7) (B_ (.z_ 94)),G' (rg 8) (J' 5 101),G' (rg 9) (E_ (.f6 1 102 100))]))) (A_ [103,4,3,0] 104 [Nm 6 (.c (.int .i64 10)),G_ 103 (C_ 104)] (.cond 103 (At 105 [C_ 0,C_ 0,B_ (.z_ 106),J' 6 107,O_ 108,P' 109,B_ (.z_ 105),J' 6 111,E_ (.f6 1 112 110)]) .skip)))))))))))) (A_ [4] 113 [C' (.d6 0 (some 4) 3),E_ (.U_ 1 4 4 113)] .ret)))
def MH:DFun:=⟨2,114,2,false,[.cell 4 (some 4)],ZaI⟩
@[irreducible] def Qv:Bg:=ER MH.er.er
@[irreducible] def SY:Dl:=Jv MH.er
theorem ZaK:Kf Qv SY:=by unfold Qv SY;exact Xo (f:=MH.er) ⟨ve,trivial⟩
def WN:List HT:=[.agg [Av,Av,Av,Av]]
def WL:List (Ql×CT):=[AF,(.own,.sl (.one (.sl Az))),(.own,.sl (.one (.sl AO))),AF,(.own,.sl AS),AF,(.own,.bool)]
def WM:QT:=.one (.agg [AF,AF,AF,AF])
def WA:List (Ql×CT):=[AF,AF,AF,AF]
@[irreducible] def Qt(x:Rv):CF×Bw:=(shut λx=>RB MH WN WA WL WM x).1 x
@[irreducible] def Qk(x:Rv):Prop:=(shut λx=>Rp MH WN WA WL WM x).1 x
def kh:GO:=TY WN WA WL WM Qk Qt
theorem ZaO:Q6 SY kh:=by unfold SY;exact bl (f:=MH) (hs:=WN) (c2:=WA) (cs:=WL) (q:=WM) ⟨vn,trivial⟩ (by kernel_rfl) (λx=>by kernel_rfl) (λx h=>by unfold Qk at h;exact Eq.mp (congrFun (shut _).2 x) h) (λx=>by unfold Qt;exact(congrFun (shut _).2 x).symm)
def Zb8:d5:=(A_ [6,3,2,1] 3 [O' 0 7 0,H_ 6 (B_ (.d7 1 [Ab,.X_,.X_,Ab,.X_,Ab,CB])),Q_ (.c .X_)] (A_ [8,6,3,2,1] 12 [K_ 0 7 3,I' IJ [12],G_ 8 (B_ (.allocH [Ab,.X_,.X_,Ab,.X_,Ab,CB])),E_ (.f6 7 8 13)] (A_ [9,8,6,3,2,1] 14 [J' 3 3,J_ 0 14,J' 4 3,J_ 0 16,I' K8 [15,17],G_ 9 (C_ 18)] (.seq [10,8,6,3,2,1] (.region [oa 13 10 (.allocH [Ab,Ab,Ab,Ab]),oa 0 19 (.f5 0 3),xA 1 20 (.f5 1 19) (rg 1),xA 2 21 (.d6 0 none 20) (rg 2),oa 3 22 (.f5 0 3),xA 4 23 (.d6 0 (some 2) 22) [3],om 5 24 9,om 6 25 1,om 10 29 1,xF 7 26 Ll [23,24,25] [3,4,5,6],xA 8 27 (.m_ 1 21 26) (rg 8),xA 9 28 (.g9 none 27) (rg 9),xA 11 30 (.m_ 4 28 29) (rg 11),xB 12 31 (.g9 (some 4) 30) (rg 12),xS 14 (.f6 4 10 31) (rg 14)]) (.seq [10,8,6,3,1] (A_ [32,10,8,6,3,1] 32 [C_ 2] (.cond 32 (At 33 [B_ (.g9 (some 4) 10),I' LC [33],E_ (.f6 4 10 34)]) (At 35 [B_ (.g9 (some 4) 10),I' LH [35],E_ (.f6 4 10 36)]))) (A_ [10,8,6,3,1] 37 [B_ (.g9 (some 4) 10),I_ (.callp false Qv SY kh [8,37]),E_ (.f6 4 10 38)] (A_ [10,8,6,3] 39 [J' 4 8,C' (.g9 none 39),C_ 1,C' (.g9 (some 4) 10),B_ (.build [Ab,Ab,Ab,Ab,Ab] [(0,1,41),(1,4,42)]),Q' AS (.d4 5 1 [Ab,Ab,Ab,Ab,Ab] [(0,5,43)]),B_ (.app 5 40 44),J' 4 8,E_ (.f6 1 46 45)] (A_ [11,10,8,6,3] 11 [Q_ (.c .X_)] (.seq [11,8,6,3] (A_ [57,11,10,8,6,3] 47 [J' 0 10,O_ 47,Nm 48 (.c (.int .i64 9)),C_ 49,F_ 50 (J' 3 10),F_ 50 (O_ 51),F_ 50 (J' 2 3),F_ 50 (J_ 0 53),F_ 50 (L' 54),F_ 50 (M' 52 55),L_ 50 56 Ar] (.cond 57 (At 58 [J' 4 8,G' (rg 1) (O_ 58),J' 2 3,G' [2] (J_ 0 60),J' 3 10,G' [4] (O_ 62),G' [2,3,4,5] (N_ 1 61 63),G' [2,3,4,5,6] (O_ 64),G' (rg 8) (I' KF [59,65]),G_ 11 (G' (rg 9) (Q_ 66))]) .skip)) (A_ [11,8,6,3] 67 [C_ 11,J' 4 8,O_ 68,I' E1 [69],Q' (.cons (.int .i64) (.one (.sl (.one (.int .i64))))) (.d4 2 1 [Ab,.X_] [(0,2,70)]),B_ (.app 2 67 71),G_ 11 (C_ 72)] (.seq [7,6] (.region [oa 0 73 (.g9 (some 7) 8),oa 1 74 (.f5 4 3),xA 2 75 (.d6 0 none 74) [1],om 4 77 11,xF 3 76 E1 [75] [1,2],⟨5,some 78,.tk KC Va 76 77,none,[1,2,3,4]⟩,⟨6,none,.clm 8 73 (.U_ 1 7 6 73),none,[0,1,2,3,4,5]⟩,xA 7 7 (.mv 78) (rg 7)]) .ret)))))))))))
def LK:Fn:=⟨⟨3,79,2,false,[.cell 6 (some 7),.tmp 7],Zb8⟩,[.agg [Av,(.Z_,.sl (.one (.sl Az))),(.Z_,.sl (.one (.sl AO))),Av,(.Z_,.sl AS),Av,(.Z_,.bool)],.one .Z_ (.int .i64),.one .Z_ (.bool)],.f8 [.agg [AF,(.own,.sl (.one (.sl Az))),(.own,.sl (.one (.sl AO))),AF,(.own,.sl AS),AF,(.own,.bool)],.one .own (.sl (.cons (.int .i64) (.one (.sl (.one (.int .i64))))))]⟩
theorem ZcO:LK.A:=AK ⟨hZ,yH,zQ,ZaN,Zcw,ZaK,tn,Su,Su,gC,trivial⟩
def W0:Fj->Bw×BQ:=LK.V
def aJ:Fj->Prop:=LK.O
theorem ZcC:LK.B:=AM ⟨im,yo,Zat,ZbK,Zcc,ZaO,tC,Sg,Sg,trivial⟩ (by kernel_rfl) (λx=>by kernel_rfl)
def Zck:d5:=(A_ [6,3,2,1] 3 [O' 0 7 0,H_ 6 (B_ (.d7 1 [Ab,.X_,.X_,Ab,.X_,Ab,CB])),Q_ (.c .X_),Q_ Ar] (.seq [6,3,2,1] (A_ [30,6,3,2,1] 11 [K_ 0 7 3,I' IZ [11],P' 12,C_ 13,F' 14 (Q_ 1),F' 14 (M' 15 AQ),L_ 14 AU 16,C_ 17,F' 18 (Q_ 1),F' 18 (J' 0 3),F' 18 (J' 0 20),F' 18 (J_ 0 21),F' 18 (B_ (.bin .geq 19 22)),L_ 18 AU 23,C_ 24,F' 25 (K_ 0 7 3),F' 25 (Q_ 1),F' 25 (I' G7 [26,27]),F' 25 (B_ (.bin .geq 28 AQ)),L_ 25 AU 29] (.cond 30 (A_ [8,7,6] 31 [B_ (.build [Ab,.X_,.X_,Ab,.X_,Ab,CB] []),E_ (.U_ 1 7 6 31),H_ 7 (Q_ (.c .X_)),Q_ Ar] .ret) .skip)) (A_ [10,9,6] 33 [K_ 0 7 3,C_ 1,C_ 2,I' LK [33,34,35],G_ 32 (C_ 36),B_ (.extract 32 0),B_ (.extract 32 1),H_ 9 (B_ (.d7 2 [Ab,.X_,.X_,Ab,.X_,Ab,CB])),E_ (.U_ 2 7 9 37),C_ 38] (A_ [8,7,6] 39 [C' (.d6 2 (some 7) 9),C_ 10,E_ (.U_ 1 7 6 39),H_ 7 (C_ 40),Q_ AU] .ret))))
def LJ:Fn:=⟨⟨3,41,3,false,[.cell 6 (some 7),.tmp 7,.tmp 8],Zck⟩,[.agg [Av,(.Z_,.sl (.one (.sl Az))),(.Z_,.sl (.one (.sl AO))),Av,(.Z_,.sl AS),Av,(.Z_,.bool)],.one .Z_ (.int .i64),.one .Z_ (.bool)],.f8 [.agg [AF,(.own,.sl (.one (.sl Az))),(.own,.sl (.one (.sl AO))),AF,(.own,.sl AS),AF,(.own,.bool)],.one .own (.sl (.cons (.int .i64) (.one (.sl (.one (.int .i64)))))),.one .own (.bool)]⟩
theorem ZcM:LJ.A:=AK ⟨iP,j3,ZcO,trivial⟩
def F0:Fj->Bw×BQ×Bool:=LJ.V
def Qq:Fj->Prop:=LJ.O
theorem Zcp:LJ.B:=AM ⟨jh,jT,ZcC,trivial⟩ (by kernel_rfl) (λx=>by kernel_rfl)
end
section
set_option maxRecDepth 100000
theorem uL(x):JV x=t8 (BU (x,1,36)) (t8 (g_ x 39) (g_ x 42)):=(KO.v x).trans (by kernel_rfl)
theorem vq(x):ZE x=Ek (x,1,36):=(KO.o x).trans (by kernel_rfl)
theorem Zcb (x):S6 x=((x.2.2.1,x.2.2.2.1,(Z' (W_ (W_ (U' (U' (JV x.2.2.2.1))) x.1.2.2.2.2.2.2) (W_ (iLe x.2.2.2.1 26) (g_ (iAndNot .i64 (iOr .i64 x.2.2.2.2.1 x.1.2.2.2.2.2.1) 2) 0))) 2 (iOr .i64 x.2.2.2.2.1 x.1.2.2.2.2.2.1)),x.2.2.2.2.2),x.1.1,x.1.2.1,x.1.2.2.1,x.1.2.2.2.1,x.1.2.2.2.2.1,0,(W_ (U' (U' (JV x.2.2.2.1))) x.1.2.2.2.2.2.2)):=by unfold S6;exact(congrFun (shut _).2 x).trans (by kernel_rfl)
theorem Zca (x):SW x=(ZE x.2.2.2.1):=by unfold SW;exact(congrFun (shut _).2 x).trans (by kernel_rfl)
theorem zb (x):Qe x=(Z' (t8 (U' (g_ x.2.2.1 2)) (U' (iGt x.2.2.2.1 0))) (x.2.2,x.1.1,x.1.2.1,x.1.2.2.1,(Z' (g_ x.2.2.1 2) x.1.2.2.2.1 (Z' (g_ x.2.2.1 4) (iXor .i64 x.1.2.2.2.1 (iShl .i64 1 x.2.2.2.2.2)) (Z' (g_ x.2.2.1 5) (iAndNot .i64 (iShl .i64 1 x.2.2.2.2.2) 1) x.1.2.2.2.1))),x.1.2.2.2.2.1,(Z' (g_ x.2.2.1 2) x.1.2.2.2.2.2.1 (Z' (g_ x.2.2.1 4) x.1.2.2.2.2.2.1 (Z' (g_ x.2.2.1 5) x.1.2.2.2.2.2.1 (Z' (g_ x.2.2.1 8) (Z' (g_ (iAnd .i64 x.1.2.2.2.2.2.1 x.2.2.2.2.1) x.2.2.2.2.1) (iAndNot .i64 x.1.2.2.2.2.2.1 x.2.2.2.2.1) (iOr .i64 x.1.2.2.2.2.2.1 x.2.2.2.2.1)) x.1.2.2.2.2.2.1)))),(Z' (g_ x.2.2.1 2) x.1.2.2.2.2.2.2 (Z' (g_ x.2.2.1 4) x.1.2.2.2.2.2.2 (Z' (g_ x.2.2.1 5) x.1.2.2.2.2.2.2 (Z' (g_ x.2.2.1 8) x.1.2.2.2.2.2.2 (Z' (g_ x.2.2.1 10) (U' x.1.2.2.2.2.2.2) x.1.2.2.2.2.2.2)))))) (S6 x)):=by unfold Qe;exact(congrFun (shut _).2 x).trans (by kernel_rfl)
theorem yj (x):P6 x=(((g_ x.2.2.1 2)=true->(((iGt x.2.2.2.1 0)=true->(SW x))/\((iGt x.2.2.2.1 0)=false->True)))/\((g_ x.2.2.1 2)=false->(((g_ x.2.2.1 4)=true->((0:Int)<=x.2.2.2.2.2))/\((g_ x.2.2.1 4)=false->(((g_ x.2.2.1 5)=true->((0:Int)<=x.2.2.2.2.2))/\((g_ x.2.2.1 5)=false->True)))))):=by unfold P6;exact(congrFun (shut _).2 x).trans (by kernel_rfl)
def MG(x:Fj):=BU (x.2.1,0,(iSub .i64 x.1.1 1))
def Cv(x:Fj):=Wg ((x.1.1,x.1.2.1),(SC (x.1.2.2.2.1,x.1.2.2.2.2.1)),x.2.1)
def B5(x:Fj):=Qe ((DQ x.1),((Z' x.2.2 (DR (Cv x)).1 (DU (Cv x)).1),(Z' x.2.2 (DR (Cv x)).2.1 (DU (Cv x)).2.1),(Z' x.2.2 (DR (Cv x)).2.2.1 (DU (Cv x)).2.2.1),(Z' x.2.2 (DR (Cv x)).2.2.2 (DU (Cv x)).2.2.2)),(Z' x.2.2 (DR (Cv x)).1 (DU (Cv x)).1),(Z' x.2.2 (DR (Cv x)).2.1 (DU (Cv x)).2.1),(Z' x.2.2 (DR (Cv x)).2.2.1 (DU (Cv x)).2.2.1),(Z' x.2.2 (DR (Cv x)).2.2.2 (DU (Cv x)).2.2.2))
def SD(x:Fj):=Cb (i9 (B5 x).2.2.2.2.2.1 [(x.2.1,(B5 x).1)])
def SE(x:Fj):=GU ((i9 (B5 x).2.2.2.2.2.1 [(x.2.1,(B5 x).1)]),(So x.1.2.2.1 (R_ (B5 x).1.2.2.2) []))
theorem Zoz(x:Fj)(d)(_:d=B5 x)(k)(_:k=d.1.2.2.2)(a)(_:a=W_ (g_ d.1.1 9) (b_ k (V' x.1.2.2.1)))(b)(_:b=i9 d.2.2.2.2.2.1 [(x.2.1,d.1)])(m)(_:m=U' (Gr x.1))(n)(_:n=U' (MG x))(c)(_:c=t8 m (t8 n (iGe (Fx (x.1,x.2.1)) 0)))(e)(_:e=Cv x)(f)(_:f=x.1.2.2.2.2.1)(g)(_:g=Z' x.2.2 (DR e).2.2.1 (DU e).2.2.1)(h)(_:h=Z' x.2.2 (DR e).2.2.2 (DU e).2.2.2)(i)(_:i=Z' a (SE x) [])(j)(_:j=Z' x.2.2 (DR e).2.1 (DU e).2.1)(l)(_:l=Z' x.2.2 (DR e).1 (DU e).1)(p)(_:p=List.length x.1.2.2.1)(q)(_:q=List.length d.2.2.2.1)(r)(_:r=List.length d.2.2.1):EN x=Z' c ((0,[],[],0,[],0,false),[],false) ((d.2.1,d.2.2.1,d.2.2.2.1,d.2.2.2.2.1,b,d.2.2.2.2.2.2),P3 (Cb f,i9 i [SD x]),true)/\Qr x=((PZ x.1/\(m=true->True)/\(m=false->Ek (x.2.1,0,iSub .i64 x.1.1 1)/\(n=true->True)/\(n=false->SS (x.1,x.2.1))))/\(c=true->True)/\(c=false->Qi x.1/\VZ (x.1.2.2.2.1,f)/\V1 ((x.1.1,x.1.2.1),SC (x.1.2.2.2.1,f),x.2.1)/\((x.2.2=true->Wt e)/\(x.2.2=false->WI e))/\P6 (DQ x.1,(l,j,g,h),l,j,g,h)/\AE ((List.length d.2.2.2.2.2.1+List.length [(x.2.1,d.1)])*5)/\((a=true->((0:Int)<=k/\k<(p:Int))/\R_ k<p/\RI (b,So x.1.2.2.1 (R_ k) []))/\(a=false->True))/\MD b/\AE ((List.length i+List.length [SD x])*2)/\MD f/\PT (Cb f,i9 i [SD x])/\r=r/\q=q/\List.length b=List.length b)):=by subst_vars;exact⟨(LI.v x).trans (by kernel_rfl),(LI.o x).trans (by kernel_rfl)⟩
abbrev kD:=λx=>(Zoz x _ rfl _ rfl _ rfl _ rfl _ rfl _ rfl _ rfl _ rfl _ rfl _ rfl _ rfl _ rfl _ rfl _ rfl _ rfl _ rfl _ rfl).1
abbrev kf:=λx=>(Zoz x _ rfl _ rfl _ rfl _ rfl _ rfl _ rfl _ rfl _ rfl _ rfl _ rfl _ rfl _ rfl _ rfl _ rfl _ rfl _ rfl _ rfl).2
theorem uH(x):MB x=Z' (iGe x 1) (t8 (iLe x 36) (t8 (g_ x 39) (g_ x 42))) (t8 (g_ x 39) (g_ x 42)):=(IM.v x).trans (by kernel_rfl)
theorem uv(x):ZF x=True:=(IM.o x).trans (by kernel_rfl)
theorem Za0 (x):Qt x=(Z' (t8 (U' (g_ x.2.2.1 2)) (U' (g_ x.2.2.2.1 0))) ((x.2.2.1,x.2.2.2.1,(Z' (g_ x.2.2.1 2) (Z' (W_ (W_ x.1.2.2.2.2.2.2 (MB x.2.2.2.1)) (W_ (iLe x.2.2.2.1 26) (g_ (iAndNot .i64 (iOr .i64 x.2.2.2.2.1 x.1.2.2.2.2.2.1) 2) 0))) 2 (iOr .i64 x.2.2.2.2.1 x.1.2.2.2.2.2.1)) x.2.2.2.2.1),x.2.2.2.2.2),x.1.1,x.1.2.1,x.1.2.2.1,(Z' (g_ x.2.2.1 2) x.1.2.2.2.1 (Z' (g_ x.2.2.1 4) (iXor .i64 x.1.2.2.2.1 (iShl .i64 1 x.2.2.2.2.2)) (Z' (g_ x.2.2.1 5) (iAndNot .i64 (iShl .i64 1 x.2.2.2.2.2) 1) x.1.2.2.2.1))),x.1.2.2.2.2.1,(Z' (g_ x.2.2.1 2) (Z' (W_ (W_ x.1.2.2.2.2.2.2 (MB x.2.2.2.1)) (W_ (iLe x.2.2.2.1 26) (g_ (iAndNot .i64 (iOr .i64 x.2.2.2.2.1 x.1.2.2.2.2.2.1) 2) 0))) 0 0) (Z' (g_ x.2.2.1 4) x.1.2.2.2.2.2.1 (Z' (g_ x.2.2.1 5) x.1.2.2.2.2.2.1 (Z' (g_ x.2.2.1 8) (Z' (g_ (iAnd .i64 x.1.2.2.2.2.2.1 x.2.2.2.2.1) x.2.2.2.2.1) (iAndNot .i64 x.1.2.2.2.2.2.1 x.2.2.2.2.1) (iOr .i64 x.1.2.2.2.2.2.1 x.2.2.2.2.1)) x.1.2.2.2.2.2.1)))),(Z' (g_ x.2.2.1 2) (Z' (W_ (W_ x.1.2.2.2.2.2.2 (MB x.2.2.2.1)) (W_ (iLe x.2.2.2.1 26) (g_ (iAndNot .i64 (iOr .i64 x.2.2.2.2.1 x.1.2.2.2.2.2.1) 2) 0))) (W_ x.1.2.2.2.2.2.2 (MB x.2.2.2.1)) (W_ x.1.2.2.2.2.2.2 (MB x.2.2.2.1))) (Z' (g_ x.2.2.1 4) x.1.2.2.2.2.2.2 (Z' (g_ x.2.2.1 5) x.1.2.2.2.2.2.2 (Z' (g_ x.2.2.1 8) x.1.2.2.2.2.2.2 (Z' (g_ x.2.2.1 10) (U' x.1.2.2.2.2.2.2) x.1.2.2.2.2.2.2)))))) (x.2.2,x.1)):=by unfold Qt;exact(congrFun (shut _).2 x).trans (by kernel_rfl)
theorem ZbO (x):Qk x=(((g_ x.2.2.1 2)=true->(((g_ x.2.2.2.1 0)=true->True)/\((g_ x.2.2.2.1 0)=false->((x.1.2.2.2.2.2.2=true->(ZF x.2.2.2.1))/\(x.1.2.2.2.2.2.2=false->True)))))/\((g_ x.2.2.1 2)=false->(((g_ x.2.2.1 4)=true->((0:Int)<=x.2.2.2.2.2))/\((g_ x.2.2.1 4)=false->(((g_ x.2.2.1 5)=true->((0:Int)<=x.2.2.2.2.2))/\((g_ x.2.2.1 5)=false->True)))))):=by unfold Qk;exact(congrFun (shut _).2 x).trans (by kernel_rfl)
def JY(x:Fj):=SU ((x.1.1,x.1.2.1),(E5 (x.1.2.2.2.1,x.1.2.2.2.2.1)),x.2.1)
def EI(x:Fj):=WZ (So (So x.1.2.1 (R_ (JY x)) []) (R_ x.2.1) (0,0,0,0))
def EJ(x:Fj):=WQ (So (So x.1.2.1 (R_ (JY x)) []) (R_ x.2.1) (0,0,0,0))
def B4(x:Fj):=Qt ((BA x.1),((Z' x.2.2 (EJ x).1 (EI x).1),(Z' x.2.2 (EJ x).2.1 (EI x).2.1),(Z' x.2.2 (EJ x).2.2.1 (EI x).2.2.1),(Z' x.2.2 (EJ x).2.2.2 (EI x).2.2.2)),(Z' x.2.2 (EJ x).1 (EI x).1),(Z' x.2.2 (EJ x).2.1 (EI x).2.1),(Z' x.2.2 (EJ x).2.2.1 (EI x).2.2.1),(Z' x.2.2 (EJ x).2.2.2 (EI x).2.2.2))
def Sv(x:Fj):=B8 (i9 (B4 x).2.2.2.2.2.1 [(x.2.1,(B4 x).1)])
def Sw(x:Fj):=RO ((i9 (B4 x).2.2.2.2.2.1 [(x.2.1,(B4 x).1)]),(So x.1.2.2.1 (R_ (B4 x).1.2.2.2) []))
theorem ZoE(x:Fj)(d)(_:d=B4 x)(k)(_:k=d.1.2.2.2)(a)(_:a=W_ (g_ d.1.1 9) (b_ k (V' x.1.2.2.1)))(b)(_:b=i9 d.2.2.2.2.2.1 [(x.2.1,d.1)])(c)(_:c=So x.1.2.1 (R_ (JY x)) [])(e)(_:e=x.1.2.2.2.2.1)(f)(_:f=Z' x.2.2 (EJ x).2.2.1 (EI x).2.2.1)(g)(_:g=Z' x.2.2 (EJ x).2.2.2 (EI x).2.2.2)(h)(_:h=Z' a (Sw x) [])(i)(_:i=Z' x.2.2 (EJ x).2.1 (EI x).2.1)(j)(_:j=So c (R_ x.2.1) (0,0,0,0))(l)(_:l=Z' x.2.2 (EJ x).1 (EI x).1)(m)(_:m=List.length x.1.2.2.1)(n)(_:n=List.length d.2.2.2.1)(p)(_:p=List.length x.1.2.1)(q)(_:q=List.length d.2.2.1):W0 x=((d.2.1,d.2.2.1,d.2.2.2.1,d.2.2.2.2.1,b,d.2.2.2.2.2.2),Mu (B8 e) (i9 h [Sv x]))/\aJ x=(RQ x.1/\VP (x.1.2.2.2.1,e)/\SB ((x.1.1,x.1.2.1),E5 (x.1.2.2.2.1,e),x.2.1)/\((0:Int)<=JY x/\JY x<(p:Int))/\R_ (JY x)<p/\((0:Int)<=x.2.1/\x.2.1<(List.length c:Int))/\R_ x.2.1<List.length c/\((x.2.2=true->Wz j)/\(x.2.2=false->WS j))/\Qk (BA x.1,(l,i,f,g),l,i,f,g)/\AE ((List.length d.2.2.2.2.2.1+List.length [(x.2.1,d.1)])*5)/\((a=true->((0:Int)<=k/\k<(m:Int))/\R_ k<m/\RJ (b,So x.1.2.2.1 (R_ k) []))/\(a=false->True))/\MF b/\AE ((List.length h+List.length [Sv x])*2)/\MF e/\Mt (B8 e) (i9 h [Sv x])/\q=q/\n=n/\List.length b=List.length b):=by subst_vars;exact⟨(LK.v x).trans (by kernel_rfl),(LK.o x).trans (by kernel_rfl)⟩
abbrev Zcl:=λx=>(ZoE x _ rfl _ rfl _ rfl _ rfl _ rfl _ rfl _ rfl _ rfl _ rfl _ rfl _ rfl _ rfl _ rfl _ rfl _ rfl _ rfl).1
abbrev Zb0:=λx=>(ZoE x _ rfl _ rfl _ rfl _ rfl _ rfl _ rfl _ rfl _ rfl _ rfl _ rfl _ rfl _ rfl _ rfl _ rfl _ rfl _ rfl).2
theorem ZoG(x:Fj)(b)(_:b=iGe x.2.1 x.1.1)(c)(_:c=U' (CG x.1))(d)(_:d=b_ x.2.1 0)(a)(_:a=t8 c (t8 d (t8 b (iGe (BP (x.1,x.2.1)) 0)))):F0 x=Z' a ((0,[],[],0,[],0,false),[],false) ((W0 x).1,(W0 x).2,true)/\Qq x=((P8 x.1/\(c=true->True)/\(c=false->(d=true->True)/\(d=false->(b=true->True)/\(b=false->Qm (x.1,x.2.1)))))/\(a=true->True)/\(a=false->aJ x)):=by subst_vars;exact⟨(LJ.v x).trans (by kernel_rfl),(LJ.o x).trans (by kernel_rfl)⟩
abbrev ki:=λx=>(ZoG x _ rfl _ rfl _ rfl _ rfl).1
abbrev kt:=λx=>(ZoG x _ rfl _ rfl _ rfl _ rfl).2
attribute [irreducible] JV ZE EN Qr MB ZF W0 aJ F0 Qq
end
theorem L8(k c m n:Int):Cc (k,c,m,n)=true ↔
 ((k=0\/k=1\/k=10)/\c=0/\m=0/\n=0)\/(k=2/\n=0/\0<=c/\c<=56/\0<=m/\m<=15/\(c≠0\/m≠0))\/((k=3\/k=4)/\c=0/\m=0/\1<=n/\n<=3)\/((k=5\/k=9)/\c=0/\m=0/\0<=n/\n<=3) \/
 (k=6/\1<=c/\c<=56/\1<=m/\m<=15/\n=0)\/(k=7/\1<=c/\c<=56/\m=0/\1<=n/\n<=3)\/(k=8/\c=0/\1<=m/\m<=15/\n=0):=by
 rw[Se];simp only[BM,Bd,AB,BF,Bo,Wy,Wn,ay,CY,Ff];repeat' split
 all_goals simp only[Aj,Ce,Br,B7,Gf,Cl,Ay,Bn,GI,JG,Bb,Ka,Hu,GI,decide_not]at *
 all_goals omega
section
set_option maxRecDepth 20000
abbrev FN:=Int×Int×Int×Int
abbrev gp:=Int×Cz×CJ×Int×Bj×Int×Bool
theorem Zi3{a b:Nat}(i:a<4611686018427387904)(g:b<4611686018427387904):iXor .i64 (a:Int) (b:Int)=((a ^^^ b:Nat):Int):=by
 have e:(BitVec.ofInt 64 (a:Int) ^^^ BitVec.ofInt 64 (b:Int)).toNat=a ^^^ b:=by
  rw[BitVec.ofInt_natCast,BitVec.ofInt_natCast,BitVec.toNat_xor,BitVec.toNat_ofNat,BitVec.toNat_ofNat,Nat.mod_eq_of_lt (by omega),Nat.mod_eq_of_lt (by omega)]
 have h:a ^^^ b<2^62:=Nat.xor_lt_two_pow (by omega) (by omega);rw[qQ];show IntKind.i64.wrap ((BitVec.ofInt 64 (a:Int) ^^^ BitVec.ofInt 64 (b:Int)).toNat:Int)=_;rw[e];exact wrap_i64 (by unfold Bl;omega)
def FO(a b:Nat):Nat:=a &&& (15-b)
theorem Zeo:∀a b:Fin 16,(BitVec.ofInt 64 (a.val:Int) &&& ~~~BitVec.ofInt 64 (b.val:Int)).toNat=FO a.val b.val:=by decide +kernel
theorem p9(a b:Nat):FO a b<=a:=Nat.and_le_left
theorem bH{a b:Nat}(i:a<16)(g:b<16):iAndNot .i64 (a:Int) (b:Int)=((FO a b:Nat):Int):=by
 have e:(BitVec.ofInt 64 (a:Int) &&& ~~~BitVec.ofInt 64 (b:Int)).toNat=FO a b:=Zeo ⟨a,i⟩ ⟨b,g⟩;have h:=p9 a b;rw[mE];show IntKind.i64.wrap ((BitVec.ofInt 64 (a:Int) &&& ~~~BitVec.ofInt 64 (b:Int)).toNat:Int)=_;rw[e];exact wrap_i64 (by unfold Bl;omega)
theorem Zh3{n:Nat}(h:n<=40):iShl .i64 1 (n:Int)=((2^n:Nat):Int):=by
 have hp:2^n<=2^40:=Nat.pow_le_pow_right (by omega) h;have e:=TU (a:=1) (k:=n) (by omega) (by rw[FF];exact Nat.lt_of_le_of_lt hp (by decide));rwa [FF]at e
theorem Zdu(c:Int):MB c=JV c:=by
 rw[uH,uL,Hs];simp only[BM,Bd,BF,CY,Ff];by_cases h:1<=c
 ·simp[h]
 simp[h]
def TW(w:Bool)(c:Int)(m on:Nat)(b:Bool):Nat:=if (b=true/\w=true)/\c<=26/\FO (m ||| on) 2=0 then 2 else m ||| on
def EG(w:Bool)(x:gp)(a:FN):FN×gp:=
 if a.1=2 then
  if 0<a.2.1 then ((a.1,a.2.1,((TW w a.2.1 a.2.2.1.toNat x.2.2.2.2.2.1.toNat x.2.2.2.2.2.2:Nat):Int),a.2.2.2),x.1,x.2.1,x.2.2.1,x.2.2.2.1,x.2.2.2.2.1,0,(x.2.2.2.2.2.2&&w))
  else (a,x)
 else if a.1=4 then (a,x.1,x.2.1,x.2.2.1,((x.2.2.2.1.toNat ^^^ 2^a.2.2.2.toNat:Nat):Int),x.2.2.2.2)
 else if a.1=5 then (a,x.1,x.2.1,x.2.2.1,((FO (2^a.2.2.2.toNat) 1:Nat):Int),x.2.2.2.2)
 else if a.1=8 then (a,x.1,x.2.1,x.2.2.1,x.2.2.2.1,x.2.2.2.2.1,((if x.2.2.2.2.2.1.toNat &&& a.2.2.1.toNat=a.2.2.1.toNat then FO x.2.2.2.2.2.1.toNat a.2.2.1.toNat else x.2.2.2.2.2.1.toNat ||| a.2.2.1.toNat:Nat):Int),x.2.2.2.2.2.2)
 else if a.1=10 then (a,x.1,x.2.1,x.2.2.1,x.2.2.2.1,x.2.2.2.2.1,x.2.2.2.2.2.1,!x.2.2.2.2.2.2)
 else (a,x)
theorem Zge(x:gp)(a:FN)(ha:Cc a=true)(f0:0<=x.2.2.2.1)(f1:x.2.2.2.1<=15)(o0:0<=x.2.2.2.2.2.1)(o1:x.2.2.2.2.2.1<=15):P6 (x,a,a)/\Qk (x,a,a)/\Qe (x,a,a)=EG (JV a.2.1) x a/\Qt (x,a,a)=EG (JV a.2.1) x a:=by
 obtain⟨k,L,mc,f,hd,on,cp⟩:=x;obtain⟨g,c,m,n⟩:=a;have h:=(L8 g c m n).1 ha;simp only at f0 f1 o0 o1;obtain⟨F,rfl⟩:=Int.eq_ofNat_of_zero_le f0;obtain⟨O,rfl⟩:=Int.eq_ofNat_of_zero_le o0;obtain⟨M,rfl⟩:=Int.eq_ofNat_of_zero_le (show 0<=m by omega);obtain⟨P,rfl⟩:=Int.eq_ofNat_of_zero_le (show 0<=n by omega);have hM:M<16:=by omega
 have hO:O<16:=by omega
 have hP:P<=3:=by omega
 have hor:M ||| O<2^4:=Nat.or_lt_two_pow (by omega) (by omega)
 have h24:(2:Nat)^4=16:=by decide
 have e2:((2:Nat):Int)=2:=rfl;have h2P:2^P<=2^3:=Nat.pow_le_pow_right (by omega) hP;have h23:(2:Nat)^3=8:=by decide
 have x1:iOr .i64 (M:Int) (O:Int)=((M ||| O:Nat):Int):=YN (by omega) (by omega);have x2:iAndNot .i64 ((M ||| O:Nat):Int) 2=((FO (M ||| O) 2:Nat):Int):=bH (b:=2) (by omega) (by omega);have x3:iShl .i64 1 (P:Int)=((2^P:Nat):Int):=Zh3 (by omega);have x4:iXor .i64 (F:Int) ((2^P:Nat):Int)=((F ^^^ 2^P:Nat):Int):=Zi3 (by omega) (by omega);have Z:iAndNot .i64 ((2^P:Nat):Int) 1=((FO (2^P) 1:Nat):Int):=bH (b:=1) (by omega) (by omega);have Y:iAnd .i64 (O:Int) (M:Int)=((O &&& M:Nat):Int):=pA (by omega) (by omega);have U:iAndNot .i64 (O:Int) (M:Int)=((FO O M:Nat):Int):=bH hO hM;have R:iOr .i64 (O:Int) (M:Int)=((O ||| M:Nat):Int):=YN (by omega) (by omega);have N:((FO (M ||| O) 2:Nat):Int)=0↔FO (M ||| O) 2=0:=by omega
 have J:((O &&& M:Nat):Int)=(M:Int)↔O &&& M=M:=by omega
 refine⟨?_,?_,?_,?_⟩
 ·rw[yj];simp only[Zca,vq];exact⟨λ_=>⟨λ_=>by rw[Qy];trivial,λ_=>trivial⟩,λ_=>⟨λ_=>by omega,λ_=>⟨λ_=>by omega,λ_=>trivial⟩⟩⟩
 ·rw[ZbO];simp only[uv];exact⟨λ_=>⟨λ_=>trivial,λ_=>⟨λ_=>trivial,λ_=>trivial⟩⟩,λ_=>⟨λ_=>by omega,λ_=>⟨λ_=>by omega,λ_=>trivial⟩⟩⟩
 ·rw[zb,Zcb];unfold EG TW;simp only[x1,x2,x3,x4,Z,Y,U,R,AG];generalize JV c=w;simp only[BM,Bd,Ax,AB,BF,DH,Ff,N,J];by_cases q:g=2
  ·by_cases D:0<c
   ·simp only[q,D,decide_true,GH,Bool.or_false,AZ,A5,AX,Jw];by_cases j:(cp=true/\w=true)/\c<=26/\FO (M ||| O) 2=0
    ·rw[Ad j,Ad (by obtain⟨⟨C,A⟩,I,G⟩:=j;simp[C,A,I,G])];obtain⟨⟨C,A⟩,I,G⟩:=j;simp[C,A]
    rw[Ae j,Ae (by intro t;apply j;simp at t;exact⟨⟨t.1.2,t.1.1⟩,t.2⟩)];rw[Bool.and_comm]
   simp only[q,D,decide_true,GH,decide_false,Bool.not_false,Bool.or_true,AX,A5]
  simp only[q,decide_false,Bool.not_false,Bool.true_or,AX,A5,AZ];by_cases z:g=4
  ·simp only[z,decide_true,AX]
  simp only[z,decide_false,A5,AZ];by_cases y:g=5
  ·simp only[y,decide_true,AX]
  simp only[y,decide_false,A5,AZ];by_cases u:g=8
  ·simp only[u,decide_true,AX,Ay];split<;>rfl
  simp only[u,decide_false,A5,AZ];by_cases i:g=10
  ·simp only[i,decide_true,AX]
  simp only[i,decide_false,A5,AZ]
 rw[Za0];unfold EG TW;simp only[Zdu,x1,x2,x3,x4,Z,Y,U,R,AG];generalize JV c=w;simp only[BM,Bd,Ax,AB,BF,DH,Ff,N,J];by_cases q:g=2
 ·by_cases D:0<c
  ·have s:¬c=0:=(by omega);simp only[q,D,s,decide_true,decide_false,GH,Bool.not_false,Bool.or_true,Bool.or_false,AZ,A5,AX,Jw,ite_self];by_cases j:(cp=true/\w=true)/\c<=26/\FO (M ||| O) 2=0
   ·rw[Ad j,Ad (by obtain⟨⟨C,A⟩,I,G⟩:=j;simp[C,A,I,G])];rfl
   rw[Ae j,Ae (by intro t;apply j;simpa using t)]
  have s:c=0:=(by omega);simp only[q,s,decide_true,GH,Bool.or_false,AZ,A5,AX];simp
 simp only[q,decide_false,Bool.not_false,Bool.true_or,AX,A5,AZ];by_cases z:g=4
 ·simp only[z,decide_true,AX]
 simp only[z,decide_false,A5,AZ];by_cases y:g=5
 ·simp only[y,decide_true,AX]
 simp only[y,decide_false,A5,AZ];by_cases u:g=8
 ·simp only[u,decide_true,AX,Ay];split<;>rfl
 simp only[u,decide_false,A5,AZ];by_cases i:g=10
 ·simp only[i,decide_true,AX]
 simp only[i,decide_false,A5,AZ]
theorem Zjm:∀F:Fin 16,∀P l:Fin 5,F.val % 2=0->1<=P.val->P.val<l.val->F.val<2^l.val->(F.val ^^^ 2^P.val) % 2=0/\F.val ^^^ 2^P.val<2^l.val:=by decide +kernel
theorem ZjS:∀P l:Fin 5,P.val<l.val->(FO (2^P.val) 1) % 2=0/\FO (2^P.val) 1<2^l.val:=by decide +kernel
end
section
set_option maxRecDepth 20000
theorem nV{c:Int->Bool}{f:Int->Int}(n:Nat)(t:Nat->Bool)(b:(n:Int)<=9223372036854775806)(j:∀i:Nat,i<=n->c i=(decide (i<n)&&!t i))(g:∀i:Nat,i<n->f i=V_ .i64 i 1):b_ (Am c f 0) (n:Int)=false↔∀i,i<n->t i=false:=by
 rw[Uf n t b j g,An,Bn,<- Oj];have:=Jj t n 0;omega
structure EngOk (x:CP):Prop where
 map:Ei (x.1,x.2.1)=true
 mac:x.2.2.1.length<=4
 macs:∀m∈x.2.2.1,I8 m=true
 held:CC x.2.2.2.2.1=true
 hk:∀a∈x.2.2.2.2.1,a.1<x.1/\(a.2.1≠9->a.2.2.2.2<x.2.1.length)
 on0:0<=x.2.2.2.2.2.1
 on1:x.2.2.2.2.2.1<=15
 f0:0<=x.2.2.2.1
 f2:x.2.2.2.1 % 2=0
 f1:x.2.2.2.1<((2^x.2.1.length:Nat):Int)
theorem qk(n:Nat)(h:n<=40):iShl .i64 1 (n:Int)=((2^n:Nat):Int):=by
 have hp:2^n<=2^40:=Nat.pow_le_pow_right (by omega) h;have e:=TU (a:=1) (k:=n) (by omega) (by rw[FF];exact Nat.lt_of_le_of_lt hp (by decide));rwa [FF]at e
theorem S8(x:CP)(hs:Cg x):CG x=true↔EngOk x:=by
 obtain⟨k,l,b,D,hd,on,F⟩:=x;have R:b.length<=1048576:=hs.2.1.1;have Y:hd.length<=1048576:=hs.2.2.1.1;have M:=nV (c:=KJ (k,l,b,D,hd,on,F)) (f:=ID) b.length (λi=>!I8 (b.getD i [])) (by omega)
  (λi hi=>by simp only[KJ,AB,An,Al,Ax,AJ,Aw,AG,CX]) (λi hi=>rfl)
 have L:=nV (c:=Mv (k,l,b,D,hd,on,F)) (f:=ID) hd.length (λi=>decide (k<=(hd.getD i (0,0,0,0,0)).1)||(!decide ((hd.getD i (0,0,0,0,0)).2.1=9)&&decide ((l.length:Int)<=(hd.getD i (0,0,0,0,0)).2.2.2.2))) (by omega)
  (λi hi=>by simp only[Mv,AB,Bd,An,CY,Bo,Al,Ax,AJ,Aw,AG,CX]) (λi hi=>rfl)
 have O:(∀i,i<b.length->(!I8 (b.getD i []))=false)↔∀m∈b,I8 m=true:=by
  constructor
  ·intro h m hm;obtain⟨i,hi,rfl⟩:=Ik hm;have:=h i hi;rw[Hq b [] hi]at this;simpa using this
  intro h i hi;have:=h _ (Cd b i [] hi);simpa using this
 have N:(∀i,i<hd.length->(decide (k<=(hd.getD i (0,0,0,0,0)).1)||(!decide ((hd.getD i (0,0,0,0,0)).2.1=9)&&decide ((l.length:Int)<=(hd.getD i (0,0,0,0,0)).2.2.2.2)))=false)↔∀a∈hd,a.1<k/\(a.2.1≠9->a.2.2.2.2<l.length):=by
  have j:∀a:Int×Int×Int×Int×Int,(decide (k<=a.1)||(!decide (a.2.1=9)&&decide ((l.length:Int)<=a.2.2.2.2)))=false↔a.1<k/\(a.2.1≠9->a.2.2.2.2<l.length):=by
   intro a;simp only[Cl,Gf,B7,Ay,Bn];constructor
   ·rintro⟨h1,y⟩;exact⟨by omega,λq=>by rcases y with h|h;exact absurd h q;omega⟩
   rintro⟨h1,y⟩;refine⟨by omega,?_⟩;by_cases q:a.2.1=9
   ·exact .inl q
   exact .inr (by have:=y q;omega)
  constructor
  ·intro h a Z;obtain⟨i,hi,rfl⟩:=Ik Z;have:=h i hi;rw[Hq hd _ hi]at this;exact(j _).1 this
  intro h i hi;exact(j _).2 (h _ (Cd hd i _ hi))
 rw[iX];simp only;rw[Al b,Al hd,Al l];simp only[AB,Ax,Bd,Aj,Br,Cl,B7,M.trans O,L.trans N];constructor
 ·rintro⟨⟨g,C,u,t,s⟩,b1,b2,z,I,G⟩;have U:l.length<=4:=(G9 hs.1 g).l2;rw[qk _ (by omega),An,Ay]at G;rw[CY,Ay]at z;rw[BF,Ay,pj z]at I;rw[DH,Bn]at C s;rw[An,Bn]at t;exact⟨g,by simp only;omega,b1,u,b2,by simp only;omega,by simp only;omega,z,I,G⟩
 rintro⟨g,C,u,t,s,a6,a7,A,J,n⟩;simp only at g C u t s a6 a7 A J n;have U:l.length<=4:=(G9 hs.1 g).l2;refine⟨⟨g,by rw[DH,Bn];omega,t,by rw[An,Bn];omega,by rw[DH,Bn];omega⟩,u,s,by rw[CY,Ay];exact A,by rw[BF,Ay,pj A];exact J,by rw[qk _ (by omega),An,Ay];exact n⟩
end
theorem Zb5(k:Int)(x:Cz)(on b:Int)(hs:DW (k,x))(h:¬B6 ((k,x),on,b)<0):MapOk k x/\Ei (k,x)=true/\0<=b/\b<k/\0<=B6 ((k,x),on,b)/\B6 ((k,x),on,b)<x.length:=by
 rw[B6.eq_1,BM]at h ⊢;by_cases i:t8 (U' (Ei (k,x))) (t8 (b_ b 0) (iGe b k))=true
 ·rw[Ad i]at h;exact absurd (by decide) h
 rw[Ae i]at h ⊢;simp only[An,CY,Ax,Bd,GI,Cl,B7,Bn]at i;obtain⟨n,h0,h1⟩:=i;have m:=G9 hs n;refine⟨m,n,by omega,by omega,by omega,?_⟩;rw[aq];have:=m.l1;have:=m.l2;have q:∀ {c:Int->Bool} {f:Int->Int},(∀st,c st=true->0<st)->(∀st,f st=iSub .i64 st 1)->Z' (iGt (Am c f (iSub .i64 (V' x) 1)) 0) (Am c f (iSub .i64 (V' x) 1)) 0<x.length:=by
  intro c f g s;have:=(Ot (c:=c) (f:=f) (λst:Int=>0<=st/\st<x.length) (λst=>st.toNat) (λst t j=>by
   have:=g st j;rw[s,FB (by unfold Bl;omega)];omega) (x0:=iSub .i64 (V' x) 1) (by rw[Al,FB (by unfold Bl;omega)];omega)).1
  rw[BM];split<;>omega
 exact q (λst g=>by rw[AB,DH,Aj,Ay]at g;exact g.1) (λst=>rfl)
theorem Zdx(k:Int)(x:Cz)(on b:Int)(hs:DW (k,x)):Wg ((k,x),on,b)=JZ ((k,x),on,b):=by
 rw[yr,JZ];simp only[mw k x on b hs]
theorem ZdL(k:Int)(x:Cz)(on b:Int)(hs:DW (k,x)):V1 ((k,x),on,b)/\iM ((k,x),on,b):=by
 obtain⟨j,i⟩:=mn k x on b hs;rw[wY,iM];simp only[mw k x on b hs];have g:b_ (B6 ((k,x),on,b)) 0=false->(((0:Int)<=B6 ((k,x),on,b)/\B6 ((k,x),on,b)<(x.length:Int))/\R_ (B6 ((k,x),on,b))<x.length/\((0:Int)<=b/\b<((So x (R_ (B6 ((k,x),on,b))) []).length:Int))/\R_ b<(So x (R_ (B6 ((k,x),on,b))) []).length):=by
  intro h;rw[An,Bn]at h;obtain⟨m,_,h0,h1,q,n⟩:=Zb5 k x on b hs h;have:=m.row (B6 ((k,x),on,b)).toNat (by omega);rw[AJ,Aw,Aw];omega
 exact⟨⟨j,λ_=>trivial,g⟩,i,λ_=>trivial,g⟩
theorem ni{c:Int->Bool}{f:Int->Int}{n:Nat}(j:n<=1048576)(h1:∀i:Nat,i<n->c i=true)(g:c n=false)(b:∀i:Int,f i=V_ .i64 i 1):Am c f 0=(n:Int):=(H4 (p:=λ_=>True) n (λi=>(i:Int)) rfl (λi hi=>⟨trivial,h1 i hi,by rw[b,B9 (by unfold Bl;omega)];omega⟩) ⟨trivial,g⟩).2
theorem Zik{k:Int}{x:List DA}(h:MapOk k x):Ei (k,x)=true:=by
 obtain⟨M,L,J,I,q,t⟩:=h;rw[Z6];rw[ni (n:=x.length) (by omega) ?_ ?_ λ_=>rfl]
 ·simp only[AB,Ax,Bd,An,DH,Al];simp;omega
 ·intro i hi;have e:So x (R_ (i:Int)) []=x.getD i []:=(by rw[AJ,Aw,AG]);have z:=q i hi;rw[ni (n:=(x.getD i []).length) (by omega) ?_ ?_ λ_=>rfl]
  ·simp only[e,AB,Ax,An,Bo,Al,z];simp;omega
  ·intro j A;have b:=t i j hi A;have C:So (x.getD i []) (R_ (j:Int)) (0,0,0,0)=(x.getD i []).getD j (0,0,0,0):=(by rw[AJ,Aw,AG]);simp only[e,C,AB,Ax,Bd,BM,An,BF,Bo,CY,Al];generalize (x.getD i []).getD j (0,0,0,0)=a at b ⊢;obtain⟨G,F,D⟩:=b;rw[G];have s:(j:Int)<((x.getD i []).length:Int):=(by omega);simp only[s,decide_true,Hv,GH,Bool.false_or];have g:(!decide (a.1=9)&&decide ((x.length:Int)<=a.2.2.2))=false:=by
    by_cases y:a.1=9
    ·rw[FC y];rfl
    have:=D y;rw[C7 (by omega:¬(x.length:Int)<=a.2.2.2),Bool.and_false]
   by_cases u:i=0
   ·have:=F u;rw[g,C7 this];simp
   rw[g];simp[u]
  simp only[e,AB,An,Al];simp
 simp only[AB,An,Al];simp
theorem ZfO(T:Int->Bool){c:Int->Bool}{f:Int->Int}{n:Nat}(h1:1<=n)(F:n<=4)(q:∀st,c st=(decide (0<st)&&!T st))(z:∀st,f st=iSub .i64 st 1):0<=Am c f ((n:Int)-1)/\Am c f ((n:Int)-1)<n/\(0<Am c f ((n:Int)-1)->T (Am c f ((n:Int)-1))=true)/\∀p:Int,Am c f ((n:Int)-1)<p->p<n->T p=false:=by
 have g:=Ot (c:=c) (f:=f) (λst:Int=>0<=st/\st<n/\∀p:Int,st<p->p<n->T p=false) (λst=>st.toNat) (λst A b=>by
  obtain⟨D,C,y⟩:=A;rw[q,Aj,Ay,Br]at b;rw[z,FB (by unfold Bl;omega)];refine⟨⟨by omega,by omega,λp s i=>?_⟩,by omega⟩;by_cases e:p=st
  ·rw[e];exact b.2
  exact y p (by omega) i) (x0:=(n:Int)-1) ⟨by omega,by omega,λp s i=>by omega⟩
 obtain⟨⟨x,u,t⟩,j⟩:=g;refine⟨x,u,λh0=>?_,t⟩;rw[q,FC h0,Hv,B7]at j;exact j
theorem kP{k:Int}{x:List DA}(hm:MapOk k x)(on b:Int)(h0:0<=b)(h1:b<k):0<=B6 ((k,x),on,b)/\B6 ((k,x),on,b)<x.length /\
 (0<B6 ((k,x),on,b)->iAnd .i64 (iShr .i64 on (B6 ((k,x),on,b))) 1=1/\((x.getD (B6 ((k,x),on,b)).toNat []).getD b.toNat (0,0,0,0)).1≠1) /\
 ∀p:Int,B6 ((k,x),on,b)<p->p<x.length->¬(iAnd .i64 (iShr .i64 on p) 1=1/\((x.getD p.toNat []).getD b.toNat (0,0,0,0)).1≠1):=by
 have z:=hm.l1;have y:=hm.l2;rw[B6.eq_1,BM,Zik hm];have A:t8 (U' true) (t8 (b_ b 0) (iGe b k))=false:=by
  rw[Bd,Bd,Ax,An,CY,C7 (by omega),C7 (by omega)];rfl
 simp only[A,AZ,A5];rw[aq];simp only;rw[Al,FB (by unfold Bl;omega)];obtain⟨s,q,j,i⟩:=ZfO (n:=x.length) (λst=>decide (iAnd .i64 (iShr .i64 on st) 1=1)&&!decide (((x.getD st.toNat []).getD b.toNat (0,0,0,0)).1=1)) (c:=λ(x0:Int)=>(W_ (iGt x0 0) (U' (W_ (g_ (Eu (on,x0)) 1) (j_ (So (So x (R_ x0) []) (R_ b) (0,0,0,0)).1 1))))) (f:=λ(x0:Int)=>(iSub .i64 x0 1)) z y
  (λst=>by simp only[AB,Ax,DH,BF,Bo,W1,AJ,Aw]) (λst=>rfl)
 generalize Am _ _ ((x.length:Int)-1)=st at *;have e:Z' (iGt st 0) st 0=st:=by rw[BM,DH];split<;>simp_all<;>omega
 rw[e];simp only[Aj,Br,Ay,Bn,Gf,B7]at j i;refine⟨s,q,j,λp u t h=>?_⟩;rcases i p u t with g|g
 ·exact g h.1
 exact h.2 g
theorem mH {α S:Type} {c:S×Int->Bool} {f:S×Int->S×Int} {p:S×Int->Prop} (x:List α) (d:α) (g:S->α->S) (b:S) (t:x.length<=1048576)
 (n:∀(s:S) (i:Nat),i<=x.length->c (s,(i:Int))=decide (i<x.length)) (q:∀(s:S) (i:Nat),i<x.length->f (s,(i:Int))=(g s (x.getD i d),V_ .i64 (i:Int) 1)) (hp:∀(s:S) (i:Nat),i<=x.length->p (s,(i:Int))):
 a_ c f p (b,0)/\Am c f (b,0)=(x.foldl g b,(x.length:Int)):=by
 have:=H4 (c:=c) (f:=f) (p:=p) x.length (λi=>((x.take i).foldl g b,(i:Int))) (x0:=(b,0)) rfl (λk j=>by
  refine⟨hp _ k (by omega),by rw[n _ k (by omega)];simpa using j,?_⟩;rw[q _ k j,B9 (by unfold Bl;omega),<- J5 x d j,List.foldl_append];simp) ⟨hp _ _ (by omega),by rw[n _ _ (by omega)];simp⟩
 refine⟨this.1,?_⟩;rw[this.2,F6]
theorem Zef {α S:Type} {c:Int×S->Bool} {f:Int×S->Int×S} {p:Int×S->Prop} (x:List α) (d:α) (g:S->α->S) (b:S) (t:x.length<=1048576)
 (n:∀(s:S) (i:Nat),i<=x.length->c ((i:Int),s)=decide (i<x.length)) (q:∀(s:S) (i:Nat),i<x.length->f ((i:Int),s)=(V_ .i64 (i:Int) 1,g s (x.getD i d))) (hp:∀(s:S) (i:Nat),i<=x.length->p ((i:Int),s)):
 a_ c f p (0,b)/\Am c f (0,b)=((x.length:Int),x.foldl g b):=by
 have:=H4 (c:=c) (f:=f) (p:=p) x.length (λi=>((i:Int),(x.take i).foldl g b)) (x0:=(0,b)) rfl (λk j=>by
  refine⟨hp _ k (by omega),by rw[n _ k (by omega)];simpa using j,?_⟩;rw[q _ k j,B9 (by unfold Bl;omega),<- J5 x d j,List.foldl_append];simp) ⟨hp _ _ (by omega),by rw[n _ _ (by omega)];simp⟩
 refine⟨this.1,?_⟩;rw[this.2,F6]
theorem ov(c:Int)(x:BO)(s:Bool):x.foldl (λs a=>t8 s (g_ a c)) s=(s||decide (c∈x)):=by
 induction x generalizing s with
 |nil=>simp
 | cons a x ih=>
   rw[List.foldl_cons,ih,Bd,BF,Bool.or_assoc];congr 1;rw[Kh];simp only[Ce,Ay,CE];constructor
   ·rintro(h|h)
    ·exact .inl h.symm
    exact .inr h
   rintro(h|h)
   ·exact .inl h.symm
   exact .inr h
theorem eD:∀(l:BO) (b hi:Int),l.Pairwise (· < ·)->(∀z∈l,b<=z/\z<=hi)->b<=hi+1->(l.length:Int)<=hi-b+1
 |[],b,hi,_,_,h=>by simp;omega
 | a::l,b,hi,hp,hm,h=>by
   rw[List.pairwise_cons]at hp;have i:=hm a (by simp);have:=eD l (a+1) hi hp.2 (λz g=>⟨by have:=hp.1 z g;omega,(hm z (by simp[g])).2⟩) (by omega);rw[A0];omega
section
set_option maxRecDepth 20000
theorem nC(l:CQ)(b:l.length<=1048576)(q:CC l=true):(B8 l).2.Pairwise (· < ·)/\∀z∈(B8 l).2,1<=z/\z<=56:=by
 obtain⟨_,_,j,_⟩:=LG l b;obtain⟨_,i,g⟩:=oO l b;rw[j,iZ,QF,q];have s:U' true=false:=by rw[Ax];rfl
 rw[s,CD];exact⟨i,λz n=>((g z).1 n).2⟩
def Zu(m:Int)(a:Dk):Int:=iOr .i64 m a.2.2.2.1
theorem ZeO(l g:CQ)(hl:l.length<=1048576)(hh:CC l=true)(hd:g.length<=1000)(hc:∀a∈g,0<=a.2.2.1/\a.2.2.1<=56):P9 (l,g)/\PQ (B8 l,g.map BE)/\KY (B8 l,g.map BE)=Fu (l,g)/\(Fu (l,g)).2.Pairwise (· < ·)/\(∀z,z∈(Fu (l,g)).2↔(z∈(B8 l).2\/z∈CH g/\z≠0))/\(Fu (l,g)).1=g.foldl Zu (B8 l).1:=by
 obtain⟨o1,_,C,_⟩:=LG l hl;obtain⟨b1,R⟩:=nC l hl hh;have b3:=eD _ 1 56 b1 R (by omega);have N:(CH g).length=g.length:=by simp[CH]
 obtain⟨m1,m2⟩:=Zef (c:=Vr (l,g)) (f:=VA (l,g)) (p:=ZH (l,g)) g (0,0,0,0,0) Zu (Cb l).1 (by omega)
  (λs i hi=>by simp only[Vr,An,Al,CX])
  (λs i hi=>by simp only[VA,Zu,AJ,Aw,AG])
  (λs i hi=>by
   simp only[ZH,An,Al,Aw,AG,Ay];exact⟨λh=>⟨⟨by omega,by omega⟩,by omega⟩,λ_=>trivial⟩)
 have L:∀(st:DN),a_ (JS (l,g)) (JT (l,g) st) (Vm (l,g)) (false,0)/\(Am (JS (l,g)) (JT (l,g) st) (false,0)).1=decide (st.2∈(B8 l).2):=by
  intro st;rw[C]at b3;obtain⟨y,x⟩:=mH (c:=JS (l,g)) (f:=JT (l,g) st) (p:=Vm (l,g)) (Cb l).2 0 (λs a=>t8 s (g_ a st.2)) false (by omega)
   (λs i hi=>by simp only[JS,An,Al,CX])
   (λs i hi=>by simp only[JT,AJ,Aw,AG])
   (λs i hi=>by
    simp only[Vm,An,Al,Aw,AG,Ay];exact⟨λh=>⟨λ_=>trivial,λ_=>⟨⟨by omega,by omega⟩,by omega⟩⟩,λ_=>trivial⟩)
  refine⟨y,?_⟩;rw[x,ov,C,Bool.false_or]
 have M:∀(st:DN) (b:Bool),a_ (Mx (l,g)) (Mz (l,g) st) (Vt (l,g)) (b,0)/\(Am (Mx (l,g)) (Mz (l,g) st) (b,0)).1=(b||decide (st.2∈CH g)):=by
  intro st b;obtain⟨y,x⟩:=mH (c:=Mx (l,g)) (f:=Mz (l,g) st) (p:=Vt (l,g)) g (0,0,0,0,0) (λs a=>t8 s (g_ a.2.2.1 st.2)) b (by omega)
   (λs i hi=>by simp only[Mx,An,Al,CX])
   (λs i hi=>by simp only[Mz,AJ,Aw,AG])
   (λs i hi=>by
    simp only[Vt,An,Al,Aw,AG,Ay];exact⟨λh=>⟨λ_=>trivial,λ_=>⟨⟨by omega,by omega⟩,by omega⟩⟩,λ_=>trivial⟩)
  refine⟨y,?_⟩;rw[x];have:=ov st.2 (CH g) b;rw[CH,List.foldl_map]at this;exact this
 have I:=XT (c:=PI) (f:=RV (l,g)) (p:=gX (l,g)) (x0:=([],1))
  (λst=>1<=st.2/\st.2<=57/\(st.1.length:Int)<st.2/\st.1.Pairwise (· < ·)/\∀z,z∈st.1↔((z∈(B8 l).2\/z∈CH g)/\1<=z/\z<st.2)) (λst=>57-st.2.toNat) (by
  rintro⟨D,c⟩ ⟨h1,h2,h3,O,F⟩;simp only at h1 h2 h3 O F;obtain⟨i1,i2⟩:=L (D,c);obtain⟨j1,j2⟩:=M (D,c) (Am (JS (l,g)) (JT (l,g) (D,c)) (false,0)).1;rw[i2]at j2;have r1:AE ((D.length+[c].length)*1):=(by unfold AE;simp only[A0,A7];omega);refine⟨⟨λ_=>⟨i1,j1,λ_=>r1,λ_=>trivial⟩,λ_=>trivial⟩,λh=>?_⟩;simp only[PI,Ff,Ay]at h;have s1:V_ .i64 c 1=c+1:=B9 (by unfold Bl;omega);simp only[RV,s1,i2,j2,BM,BL,Ce,Ay];refine⟨⟨by omega,by omega,?_,?_,λz=>?_⟩,by omega⟩
  ·split
   ·simp only[CM,A0,A7];omega
   omega
  ·split
   ·refine List.pairwise_append.2 ⟨O,List.pairwise_singleton _ _,λa ha b A=>?_⟩;rw[List.mem_singleton]at A;have:=((F a).1 ha).2.2;omega
   exact O
  split
  ·next A=>
   rw[CI,List.mem_singleton,F];constructor
   ·rintro(⟨t,u,U⟩|e)
    ·exact⟨t,u,by omega⟩
    subst e;exact⟨A,by omega,by omega⟩
   rintro⟨t,u,U⟩;by_cases e:z=c
   ·exact .inr e
   exact .inl ⟨t,u,by omega⟩
  next A=>
  rw[F];constructor
  ·rintro⟨t,u,U⟩;exact⟨t,u,by omega⟩
  rintro⟨t,u,U⟩;have:z≠c:=λe=>A (e▸t);exact⟨t,u,by omega⟩) ⟨by simp,by simp,by simp,List.Pairwise.nil,by simp⟩
 obtain⟨y,⟨x,k3,k4,J,k6⟩,Z⟩:=I;simp only[PI,Ff,Bn]at Z;generalize hK:Am PI (RV (l,g)) ([],1)=K at x k3 k4 J k6 Z;have n:∀z,z∈K.1↔(z∈(B8 l).2\/z∈CH g/\z≠0):=by
  intro z;rw[k6];constructor
  ·rintro⟨a|a,b,c⟩
   ·exact .inl a
   exact .inr ⟨a,by omega⟩
  rintro(a|⟨a,b⟩)
  ·have:=R z a;exact⟨.inl a,by omega,by omega⟩
  obtain⟨q,hq,rfl⟩:=List.mem_map.1 a;have:=hc q hq;exact⟨.inr a,by omega,by omega⟩
 have j:(g.map BE).length=g.length:=Bh ..;have cp:Dg (B8 l).2=(B8 l).2:=by rw[VH];try rfl
 have G:Sm (B8 l).2:=by rw[iQ];unfold AE;omega
 have W:=H4 (c:=NP (B8 l,g.map BE)) (f:=PH (B8 l,g.map BE)) (p:=Vj (B8 l,g.map BE)) g.length
  (λi=>((B8 l).2++(CH g).take i,(i:Int),(g.take i).foldl Zu (B8 l).1)) (x0:=((B8 l).2,0,(B8 l).1)) (by simp) (λi hi=>by
   have g1:(So (g.map BE) (R_ (i:Int)) (0,0))=BE (g.getD i (0,0,0,0,0)):=(by rw[AJ,Aw,AG,nB]);refine⟨?_,?_,?_⟩
   ·simp only[Vj,An,Al,j,Aw,AG,Ay,CM,C9,A0,A7];exact⟨λ_=>⟨⟨by omega,by omega⟩,by omega,by unfold AE;omega⟩,λ_=>trivial⟩
   ·simp only[NP,An,Al,j,Ay];omega
   ·simp only[PH,g1,BL,Cj];rw[B9 (by unfold Bl;omega),<- J5 (CH g) 0 (by omega),lV g hi,<- J5 g (0,0,0,0,0) hi,List.foldl_append];rfl) (by
   refine⟨?_,?_⟩
   ·simp only[Vj,An,Al,j,Ay];exact⟨λh=>absurd h (by omega),λ_=>trivial⟩
   simp only[NP,An,Al,j];simp)
 have tk:(CH g).take g.length=CH g:=by rw[<- N];exact F6 ..
 obtain⟨w1,Y⟩:=W;simp only[tk,F6]at Y;obtain⟨c1,⟨c2,c3⟩,c4⟩:=lE ((B8 l).2++CH g) (by rw[CM];omega);have e:MI ((B8 l).2++CH g)=K.1:=pV c2 J λz=>by
  rw[c3,n,CI];constructor
  ·rintro⟨a|a,b⟩
   ·exact .inl a
   exact .inr ⟨a,b⟩
  rintro(a|⟨a,b⟩)
  ·have:=R z a;exact⟨.inl a,by omega⟩
  exact⟨.inr a,b⟩
 rw[y6,wc,yg,vX];simp only[cp,Y,m2,hK];refine⟨⟨o1,m1,y⟩,⟨G,w1,c1⟩,?_,J,n,by rw[C]⟩;rw[e,C]
end
section
set_option maxRecDepth 20000
def mA(s:DD):Int×Int×Int×Int×Int:=(0,2,s.2.1,s.2.2,0)
def Ko(b:CQ)(s:DD):CQ:=if s.1=1 then b++[mA s]else if s.1=2 then Dw (b,CV (b,s))else b
def UY(b:CQ)(s:DD):Prop:=0<=s.1/\s.1<=2/\Cc (2,s.2.1,s.2.2,0)=true/\(s.1=2↔0<=CV (b,s))
def D8(x:Cn)(i:Nat):CQ:=(x.take i).foldl Ko []
theorem cL(x:Cn){i:Nat}(h:i<x.length):D8 x (i+1)=Ko (D8 x i) (x.getD i (0,0,0)):=by
 unfold D8;rw[<- J5 x (0,0,0) h,List.foldl_append];rfl
theorem Zjr {c:CQ×Int->Bool} {f:CQ×Int->CQ×Int} (x:Cn) (h1:¬(Am c f ([],0)).2<V' x) (y:∀(b:CQ) (i:Nat),c (b,(i:Int))=true->i<x.length/\UY b (x.getD i (0,0,0)))
 (u:∀(b:CQ) (i:Nat),i<x.length->f (b,(i:Int))=(Ko b (x.getD i (0,0,0)),(i:Int)+1)):(Am c f ([],0)).1=D8 x x.length/\∀i,i<x.length->UY (D8 x i) (x.getD i (0,0,0)):=by
 have n:=Ot (c:=c) (f:=f) (λst=>∃i:Nat,st=(D8 x i,(i:Int))/\i<=x.length/\∀j,j<i->UY (D8 x j) (x.getD j (0,0,0))) (λst=>x.length-st.2.toNat) (λst z q=>by
  obtain⟨i,rfl,hi,g⟩:=z;obtain⟨s,A⟩:=y _ i q;rw[u _ i s];refine⟨⟨i+1,by rw[cL x s];simp,by omega,λj t=>?_⟩,by simp only;omega⟩;rcases Bz j i with h|h
  ·exact g j h
  have:j=i:=(by omega);subst this;exact A) (x0:=([],0)) ⟨0,rfl,Ec _,λj g=>by omega⟩
 obtain⟨⟨i,e,hi,g⟩,_⟩:=n;rw[e,Al]at h1;rw[e];simp only at h1;have:i=x.length:=by omega
 subst this;exact⟨rfl,g⟩
theorem ZdG(x:Cn)(h:x.length<=1048576)(hm:G5 x=true):x.length<=8/\D8 x x.length=[]/\∀i,i<x.length->UY (D8 x i) (x.getD i (0,0,0)):=by
 rw[jw,AB,AB,Aj,Aj]at hm;obtain⟨h1,j,g⟩:=hm;rw[Ax,Br,An _ (V' x),Bn]at h1;rw[Ff,Al,Ay]at j;rw[BF,Al,Ay]at g;obtain⟨q,n⟩:=Zjr x h1 (λs i b=>by
  simp only[Al,AJ,Aw,AG,Sf,Om,Hs,AB,Ax,Bd,EP,An,BF,CY,Aj,Br,Cl,B7,Ay,Bb]at b;obtain⟨z,⟨c2,y⟩,u,t⟩:=b;refine⟨by omega,c2,y,u,?_⟩;have:=congrArg (·=true) t;simpa using this) (λs i hi=>by
  simp only[AJ,Aw,AG,Sf,BM,BF,Ay,BL];rw[B9 (by unfold Bl;omega)];rfl)
 refine⟨by omega,?_,n⟩;rw[<- q];exact Dq (by omega)
end
section
set_option maxRecDepth 20000
theorem Zd7(b:CQ)(p:Int){a:Int×Int×Int×Int×Int}(h:a∈Dw (b,p)):a∈b:=by
 rw[Sa]at h;simp only[BL,Jm,Iw,CL,CI]at h;rcases h with h|h
 ·exact List.mem_of_mem_drop (LZ h)
 exact List.mem_of_mem_drop (LZ h)
theorem cT(b:CQ)(s:DD)(h:b.length<=1048576):CV (b,s)=-1\/(0<=CV (b,s)/\CV (b,s)<b.length):=by
 have:=X9 (b.map BE) (s.2.1,s.2.2) (by rw[Bh];exact h);rw[Bh]at this;have e:=Ra b s.1 s.2.1 s.2.2;rw[show (s.1,s.2.1,s.2.2)=s from rfl]at e;rw[e];exact this
theorem kj{a:Int×Int×Int×Int}(h:Cc a=true):0<=a.2.2.1/\a.2.2.1<=15:=by
 rw[Se]at h;simp only[BM,Bd,AB,BF,Bo,Wn,CY,Ff]at h;repeat' split at h
 all_goals simp only[Aj,Ce,Br,B7,Gf,Cl,Ay,Bn,GI,JG,Bb,Ka]at *
 all_goals omega
def Zm(a:Dk):Prop:=(0<=a.2.2.1/\a.2.2.1<=56)/\0<=a.2.2.2.1/\a.2.2.2.1<=15
theorem Zi5(x:Cn)(A:x.length<=8)(y:∀i,i<x.length->UY (D8 x i) (x.getD i (0,0,0))):∀i,i<=x.length->(D8 x i).length<=i/\∀a∈D8 x i,Zm a:=by
 intro i;induction i with
 |zero=>intro _;exact⟨by simp[D8],by simp[D8]⟩
 | succ i ih=>
   intro hi;obtain⟨h1,j⟩:=ih (by omega);obtain⟨t,q,g,n⟩:=y i (by omega);rw[cL x (by omega)];generalize hs:x.getD i (0,0,0)=s at t q g n ⊢;unfold Ko;split
   ·refine⟨by simp only[CM,A0,A7];omega,λa b=>?_⟩;rw[CI,List.mem_singleton]at b;rcases b with b|rfl
    ·exact j a b
    exact⟨aP g,kj g⟩
   split
   ·rename_i u;have:=cT (D8 x i) s (by omega);have hp:0<=CV (D8 x i,s):=n.1 u;have z:=lz (D8 x i) (CV (D8 x i,s)) hp (by omega) (by omega);exact⟨by omega,λa b=>j a (Zd7 _ _ b)⟩
   exact⟨by omega,j⟩
theorem kI(b:Pm)(q:Au)(h:b.length<=1048576):Bt (b,q)=if C8 (λi=>decide (b.getD i (0,0)=q)) b.length 0<b.length then ((C8 (λi=>decide (b.getD i (0,0)=q)) b.length 0:Nat):Int)else -1:=by
 rw[aA];have e:=Uf (c:=λx0:Int=>(W_ (b_ x0 (V' b)) (U' (W_ (g_ (So b (R_ x0) (0,0)).1 q.1) (g_ (So b (R_ x0) (0,0)).2 q.2))))) (f:=λx0=>V_ .i64 x0 1) b.length (λi=>decide (b.getD i (0,0)=q)) (by omega)
  (λi hi=>by
   simp only[AB,An,Al,Ax,BF,AJ,Aw,AG,CX];congr 2;rw[<- Bool.decide_and];simp only[Prod.ext_iff]) (λi hi=>rfl)
 simp only[e];rw[BM,An,Al];simp only[Ay,CX]
theorem Zd0(b:Pm)(q:Au)(h:b.length<=1000)(hp:Bt (b,q)<0):Bt (b++[q],q)=b.length:=by
 rw[kI _ _ (by omega)]at hp;have n:∀i,i<b.length->decide (b.getD i (0,0)=q)=false:=by
  refine Oj.1 ?_;have:=Jj (λi=>decide (b.getD i (0,0)=q)) b.length 0;split at hp
  ·omega
  omega
 rw[kI _ _ (by rw[CM,A0,A7];omega)];have u:(b++[q]).length=b.length+1:=by simp
 rw[u];have g:(b++[q]).getD b.length (0,0)=q:=by rw[C0];simp
 have j:∀i,i<b.length->(b++[q]).getD i (0,0)=b.getD i (0,0):=λi hi=>by rw[C0,C0,Bp hi]
 generalize x:C8 (λi=>decide ((b++[q]).getD i (0,0)=q)) (b.length+1) 0=k;have y:=Jj (λi=>decide ((b++[q]).getD i (0,0)=q)) (b.length+1) 0;have t:=Th (λi=>decide ((b++[q]).getD i (0,0)=q)) (b.length+1) 0 b.length (by omega);have s:=Oq (λi=>decide ((b++[q]).getD i (0,0)=q)) (b.length+1) 0;rw[x]at y t s;have A:¬b.length<k:=λh=>by have:=t h;rw[g]at this;simp at this
 have z:¬k<b.length:=λh=>by
  have:=s (by omega);rw[j k h,n k h]at this;cases this
 have:k=b.length:=by omega
 rw[Ad (by omega),this]
theorem ZcW(b:CQ)(a:Dk)(h:b.length<=1000):Dw (b++[a],(b.length:Int))=b:=by
 rw[Sa];have e:V_ .i64 (b.length:Int) 1=b.length+1:=B9 (by unfold Bl;omega);simp only[e,BL,Jm,Iw,Aw,CL,AG,Hy,Nc];have g:((b.length:Int)+1).toNat=b.length+1:=by omega
 rw[g,List.take_left',List.drop_eq_nil_of_le (by simp)]
 ·simp
 rfl
theorem Zgz(b:CQ)(s:DD)(h:b.length<=1000)(hp:CV (b,s)<0):CV (b++[mA s],s)=b.length:=by
 have e:=Ra b s.1 s.2.1 s.2.2;have g:=Ra (b++[mA s]) s.1 s.2.1 s.2.2;rw[show (s.1,s.2.1,s.2.2)=s from rfl]at e g;rw[e]at hp;rw[g,Gb,Cm,Nq];have:=Zd0 (b.map BE) (s.2.1,s.2.2) (by rw[Bh];exact h) hp;rw[Bh]at this;exact this
def sJ(l:CQ)(r:BH):Prop:=r.2.length<=1048576/\∃b:CQ,b.length<=1000/\(∀a∈b,Zm a)/\r=Fu (l,b)
def sd(l:CQ)(x:Cn)(i:Nat)(b:BQ):Prop:=(∀r∈b,sJ l r)/\(i=0->b=[])/\(0<i->∃o,b=o++[Fu (l,D8 x i)])
theorem xr(l:CQ)(x:Cn)(hl:l.length<=1048576)(hx:x.length<=1048576):RI (l,x)/\RJ (l,x)/\RO (l,x)=GU (l,x)/\((GU (l,x)).length<=1000/\∀r∈GU (l,x),r.2.length<=1048576)/\(CC l=true->G5 x=true->sd l x x.length (GU (l,x))):=by
 have o1:=VM l hl;have o2:=V3 l hl;have o3:=jY x hx;have o4:=j8 x hx;rw[tx,th,tl,tg];simp only[QF,<- lZ x hx];by_cases hg:CC l=true/\G5 x=true;case neg=>
  have hb:t8 (U' (CC l)) (U' (G5 x))=true:=by
   rw[Bd,Ax,Ax];cases h1:CC l<;>cases h2:G5 x<;>simp_all
  rw[hb];simp only[CK];refine⟨⟨⟨o1,λ_=>trivial,λ_=>o3⟩,λ_=>trivial,λh=>by cases h⟩,⟨⟨o2,λ_=>trivial,λ_=>o4⟩,λ_=>trivial,λh=>by cases h⟩,trivial,⟨by simp,by simp⟩,λh1 h2=>absurd ⟨h1,h2⟩ hg⟩
 case pos=>
  obtain⟨hh,hm⟩:=hg;have hb:t8 (U' (CC l)) (U' (G5 x))=false:=(by rw[Bd,Ax,Ax,hh,hm];rfl);rw[hb];simp only[CD];obtain⟨x8,_,d9⟩:=ZdG x hx hm;have inv:=Zi5 x x8 d9;obtain⟨_,or2,_,_⟩:=LG l hl;have DP:∀j:CQ,j.length<=1000->(∀a∈j,Zm a)->P9 (l,j)/\PQ (B8 l,j.map BE)/\KY (B8 l,j.map BE)=Fu (l,j)/\sJ l (Fu (l,j)):=by
   intro j h1 h2;obtain⟨a1,a2,a3,a4,a5,_⟩:=ZeO l j hl hh h1 (λa ha=>(h2 a ha).1);have:=eD _ 1 56 a4 (λz hz=>by
    rcases (a5 z).1 hz with h|⟨h,hz⟩
    ·exact(nC l hl hh).2 z h
    obtain⟨q,hq,rfl⟩:=List.mem_map.1 h;have:=(h2 q hq).1;omega) (by omega)
   exact⟨a1,a2,a3,by omega,j,h1,h2,rfl⟩
  obtain⟨a1,a2,⟨i,hi,u,e1,e2,e3,e4⟩,a4⟩:=XH (c:=PD (l,x)) (f:=U3 (l,x)) (p:=U7 (l,x)) (d:=U6 (l,x)) (g:=U2 (l,x)) (q:=U4 (l,x)) (x0:=([],[],0)) (y0:=([],[],0))
   (λs t=>∃i:Nat,i<=x.length/\∃u:List BH,s=(u,D8 x i,(i:Int))/\t=(u,(D8 x i).map BE,(i:Int))/\u.length<=2*i/\sd l x i u) (λs=>x.length-s.2.2.toNat) (by
    rintro s t ⟨i,hi,u,rfl,rfl,ho,hr⟩;obtain⟨d1,d2⟩:=inv i hi;have s1:V_ .i64 (i:Int) 1=((i+1:Nat):Int):=(by rw[B9 (by unfold Bl;omega)];simp);by_cases h_:i<x.length;case neg=>
     have hn:b_ (i:Int) (V' x)=false:=(by rw[An,Al];simp;omega);refine⟨?_,?_,rfl,λh=>?_⟩
     ·simp only[U7,hn];exact⟨λh=>(by cases h),λ_=>trivial⟩
     ·simp only[U4,hn];exact⟨λh=>(by cases h),λ_=>trivial⟩
     simp only[PD,hn]at h;cases h
    case pos=>
    have ht:b_ (i:Int) (V' x)=true:=(by rw[An,Al];simp;omega);have hk:=d9 i h_;have b:=cL x h_;obtain⟨d1',d2'⟩:=inv (i+1) h_;have hget:So x (R_ (i:Int)) (0,0,0)=x.getD i (0,0,0):=(by rw[AJ,Aw,AG]);have D:R_ (i:Int)<x.length:=(by rw[Aw];simpa using h_);simp only[PD,U3,U7,U6,U2,U4,hget,ht,s1,Sf,je];generalize hs:x.getD i (0,0,0)=s at hk b;generalize hdn:D8 x i=j at hk b d1 d2;obtain⟨K,c,m⟩:=s;obtain⟨k1,k2,k3,k4⟩:=hk;simp only at k1 k2 k3 k4;have J:=aP k3;simp only at J;have NI:∀a∈j++[mA (K,c,m)],Zm a:=λa ha=>by
     rw[CI,List.mem_singleton]at ha;rcases ha with ha|rfl
     ·exact d2 a ha
     exact⟨J,kj k3⟩
    have G:(j++[mA (K,c,m)]).map BE=i9 (j.map BE) [(c,m)]:=(by rw[BL,Gb];rfl);have R:i9 j [(0,2,c,m,0)]=j++[mA (K,c,m)]:=(by rw[BL];rfl);have Y:(j.map BE).length=j.length:=Bh ..;have len1:(i9 (j.map BE) [(c,m)]).length=j.length+1:=(by rw[<- G,Bh];simp);obtain⟨p1,p2,p3,p4⟩:=DP (j++[mA (K,c,m)]) (by rw[CM,A0,A7];omega) NI;obtain⟨q1,q2,q3,q4⟩:=DP j (by omega) d2;rw[G]at p2 p3;have lo:∀r:Int×List Int,(i9 u [r]).length=u.length+1:=λr=>(by rw[BL];simp);have lo2:∀r r':Int×List Int,(i9 (i9 u [r]) [r']).length=u.length+2:=λr r'=>(by rw[BL,BL];simp);have A:∀r:Int×List Int,([r]:List BH).length=1:=λ_=>rfl;have C:∀n:Nat,n<=1000->∀w:Nat,w<=5->AE (n*w):=λn hn w hw=>Ov (by omega) (by omega);rcases (show K=0\/K=1\/K=2 by omega)with rfl|rfl|rfl
    ·
     have M:j_ 0 1=true:=(by rw[Bo];rfl);have L:j_ 0 2=true:=(by rw[Bo];rfl);have N:g_ 0 0=true:=(by rw[BF];rfl);have hneg:CV (j,0,c,m)<0:=by
      rcases cT j (0,c,m) (by omega)with h|h
      ·omega
      exact absurd (k4.2 h.1) (by decide)
     have fl:=Zgz j (0,c,m) (by omega) hneg;have wl:=ZcW j (mA (0,c,m)) (by omega);have U:Of (j++[mA (0,c,m)],0,c,m):=dM _ _ (by rw[CM,A0,A7];omega);have F:N3 (j++[mA (0,c,m)],(j.length:Int)):=Xl _ _ (by omega) (by rw[CM,A0,A7];omega) (by rw[CM,A0,A7];omega);have I:Ko j (0,c,m)=j:=(by unfold Ko;simp);rw[I]at b;simp only[M,L,N,CK,R,fl,wl,p3,q3];refine⟨⟨λ_=>⟨⟨by omega,by omega⟩,D,⟨λ_=>⟨trivial,C _ (by simp only[A0,A7];omega) _ (by omega),p1,C _ (by rw[A];omega) _ (by omega)⟩,λ_=>trivial⟩,⟨λ_=>⟨U,F,q1,C _ (by rw[lo,A];omega) _ (by omega)⟩,λ_=>trivial⟩⟩,λ_=>trivial⟩,
      ⟨λ_=>⟨⟨by omega,by omega⟩,D,⟨λ_=>⟨C _ (by omega) _ (by omega),C _ (by rw[Y];simp only[A0,A7];omega) _ (by omega),p2,C _ (by rw[A];omega) _ (by omega)⟩,λh=>by cases h⟩,q2,C _ (by rw[lo,A];omega) _ (by omega)⟩,λ_=>trivial⟩,trivial,λ_=>⟨⟨i+1,h_,_,by rw[b],by rw[b],by rw[lo2];omega,⟨λr y=>?_,λh=>absurd h (Nat.succ_ne_zero i),λ_=>⟨_,by rw[b,BL]⟩⟩⟩,by omega⟩⟩
     simp only[BL,CI,List.mem_singleton]at y;rcases y with(h|rfl)|rfl
     ·exact hr.1 r h
     ·exact p4
     exact q4
    ·
     have M:j_ 1 1=false:=(by rw[Bo];rfl);have L:j_ 1 2=true:=(by rw[Bo];rfl);have N:g_ 1 0=false:=(by rw[BF];rfl);have e11:g_ 1 1=true:=(by rw[BF];rfl);have I:Ko j (1,c,m)=j++[mA (1,c,m)]:=(by unfold Ko;simp);rw[I]at b;simp only[M,L,N,e11,CK,CD,R,p3];refine⟨⟨λ_=>⟨⟨by omega,by omega⟩,D,⟨λ_=>⟨trivial,C _ (by simp only[A0,A7];omega) _ (by omega),p1,C _ (by rw[A];omega) _ (by omega)⟩,λ_=>trivial⟩,⟨λh=>(by cases h),λ_=>trivial⟩⟩,λ_=>trivial⟩,
      ⟨λ_=>⟨⟨by omega,by omega⟩,D,⟨λh=>(by cases h),λ_=>⟨λ_=>C _ (by rw[Y];simp only[A0,A7];omega) _ (by omega),λh=>by cases h⟩⟩,p2,C _ (by rw[A];omega) _ (by omega)⟩,λ_=>trivial⟩,trivial,λ_=>⟨⟨i+1,h_,_,by rw[b],by rw[b,G],by rw[lo];omega,⟨λr y=>?_,λh=>absurd h (Nat.succ_ne_zero i),λ_=>⟨_,by rw[b,BL]⟩⟩⟩,by omega⟩⟩
     simp only[BL,CI,List.mem_singleton]at y;rcases y with h|rfl
     ·exact hr.1 r h
     exact p4
    ·
     have M:j_ 2 1=true:=(by rw[Bo];rfl);have L:j_ 2 2=false:=(by rw[Bo];rfl);have N:g_ 2 0=false:=(by rw[BF];rfl);have e11:g_ 2 1=false:=(by rw[BF];rfl);have e22:g_ 2 2=true:=(by rw[BF];rfl);have hp:0<=CV (j,2,c,m):=k4.1 rfl;have O:CV (j,2,c,m)<j.length:=by
      rcases cT j (2,c,m) (by omega)with h|h
      ·omega
      exact h.2
     have I:Ko j (2,c,m)=Dw (j,CV (j,2,c,m)):=(by unfold Ko;simp);rw[I]at b;have Z:=Ra j 2 c m;have wm:=lB j _ hp O;have U:Of (j,2,c,m):=dM _ _ (by omega);have F:=Xl j _ hp O (by omega);have okp:Qn (j.map BE,c,m):=pF _ _ (by omega);rw[b]at d1' d2';obtain⟨w1,w2,w3,w4⟩:=DP _ (by omega) d2';rw[Z]at hp O F w1 w2 w3 w4 wm b;rw[wm]at w2 w3;generalize Bt (j.map BE,c,m)=p at hp O F w1 w2 w3 w4 wm b Z ⊢;have sp:V_ .i64 p 1=p+1:=B9 (by unfold Bl;omega);simp only[M,L,N,e11,e22,CK,CD,Z,w3];refine⟨⟨λ_=>⟨⟨by omega,by omega⟩,D,⟨λh=>(by cases h),λ_=>trivial⟩,⟨λ_=>⟨U,F,w1,C _ (by rw[A];omega) _ (by omega)⟩,λ_=>trivial⟩⟩,λ_=>trivial⟩,
      ⟨λ_=>⟨⟨by omega,by omega⟩,D,⟨λh=>(by cases h),λ_=>⟨λh=>(by cases h),λ_=>⟨λ_=>⟨okp,?_⟩,λh=>by cases h⟩⟩⟩,w2,C _ (by rw[A];omega) _ (by omega)⟩,λ_=>trivial⟩,trivial,λ_=>⟨⟨i+1,h_,_,by rw[b],by rw[b,wm],by rw[lo];omega,⟨λr y=>?_,λh=>absurd h (Nat.succ_ne_zero i),λ_=>⟨_,by rw[b,BL]⟩⟩⟩,by omega⟩⟩
     ·rw[sp];simp only[Aw,Iw,Jm,Hy,Nc,C9,Nk,Y];exact⟨⟨hp,by omega,by omega,by omega⟩,⟨by omega,by omega,by omega,by omega⟩,by omega,by omega,Ov (by omega) (by omega)⟩
     simp only[BL,CI,List.mem_singleton]at y;rcases y with h|rfl
     ·exact hr.1 r h
     exact w4) ⟨0,Ec _,[],rfl,rfl,by simp,⟨by simp,λ_=>rfl,λh=>absurd h (by omega)⟩⟩
  refine⟨⟨⟨o1,λ_=>trivial,λ_=>o3⟩,λh=>(by cases h),λ_=>a1⟩,⟨⟨o2,λ_=>trivial,λ_=>o4⟩,λh=>(by cases h),λ_=>⟨or2,a2⟩⟩,by rw[e1,e2],?_⟩;rw[e1]at a4 ⊢;simp only[PD,An,Al,Bn]at a4;have hix:i=x.length:=(by omega);subst hix;exact⟨⟨by simp only;omega,λr hr=>(e4.1 r hr).1⟩,λ_ _=>e4⟩
end
section
set_option maxRecDepth 20000
def Zq(n:Nat)(a:FN):Prop:=Cc a=true/\a.1≠1/\a.1≠6/\a.1≠7/\(a.1≠9->a.2.2.2<n)
theorem lU(a:FN):Sd a=KV a:=by
 rw[vD,ZM,Om]
theorem Zg7(a:FN):WZ a=DU a:=by rw[Zcr,kE,lU]
theorem Zf1(a:FN):WQ a=DR a:=by rw[Zbq,jS,lU]
theorem ZeN(a:FN):Wt a/\WI a/\Wz a/\WS a:=by
 rw[ZbM,Zcm,ZaU,ZcE,vO];exact⟨bt _,bt _,RW _,RW _⟩
theorem Zc5{n:Nat}{a:FN}(h1:Cc a=true)(s:a.1≠1)(i:a.1≠9->a.2.2.2<n)(t:1<=n):Zq n (DR a)/\Zq n (DU a):=by
 obtain⟨k,c,m,p⟩:=a;have h:=(L8 k c m p).1 h1;rw[jS,kE,ZM,Om,h1];simp only[Ax,BM,AB,Bd,BF,Hv]at s i ⊢;by_cases b:k=6
 ·subst b;have x:1<=c/\c<=56/\1<=m/\m<=15:=(by omega);have q:Cc (2,0,m,0)=true:=(L8 _ _ _ _).2 (.inr (.inl ⟨rfl,rfl,by omega,by omega,by omega,by omega,by omega⟩));have j:Cc (2,c,0,0)=true:=(L8 _ _ _ _).2 (.inr (.inl ⟨rfl,rfl,by omega,by omega,by omega,by omega,by omega⟩));simp only[decide_true,Bool.true_or,GH,AZ,A5,AX];exact⟨⟨q,by simp,by simp,by simp,λ_=>by simp only;omega⟩,⟨j,by simp,by simp,by simp,λ_=>by simp only;omega⟩⟩
 by_cases g:k=7
 ·subst g;have u:1<=c/\c<=56/\1<=p/\p<=3:=(by omega);have q:Cc (3,0,0,p)=true:=(L8 _ _ _ _).2 (.inr (.inr (.inl ⟨.inl rfl,rfl,rfl,by omega,by omega⟩)));have j:Cc (2,c,0,0)=true:=(L8 _ _ _ _).2 (.inr (.inl ⟨rfl,rfl,by omega,by omega,by omega,by omega,by omega⟩));have:=i (by omega);simp only[b,decide_true,decide_false,Bool.or_true,GH,AZ,A5,AX];exact⟨⟨q,by simp,by simp,by simp,λ_=>this⟩,⟨j,by simp,by simp,by simp,λ_=>by simp only;omega⟩⟩
 simp only[g,b,decide_false,Bool.or_self,Bool.not_false,AX];exact⟨⟨h1,s,b,g,i⟩,⟨h1,s,b,g,i⟩⟩
theorem Zkv{a:FN}(h:Cc a=true):0<=a.2.2.2/\a.2.2.2<=3:=by
 obtain⟨k,c,m,n⟩:=a;have:=(L8 k c m n).1 h;simp only;omega
theorem rq{k:Int}{L:List (List FN)}(hm:MapOk k L)(on b:Int)(i:0<=b)(g:b<k):Cc (JZ ((k,L),on,b))=true/\(JZ ((k,L),on,b)).1≠1/\((JZ ((k,L),on,b)).1≠9->(JZ ((k,L),on,b)).2.2.2<L.length) /\
 JZ ((k,L),on,b)=(L.getD (B6 ((k,L),on,b)).toNat []).getD b.toNat (0,0,0,0):=by
 obtain⟨x,u,s,_⟩:=kP hm on b i g;have e:JZ ((k,L),on,b)=(L.getD (B6 ((k,L),on,b)).toNat []).getD b.toNat (0,0,0,0):=by
  rw[JZ];simp only;rw[An,C7 (by omega),CD,AJ,AJ,Aw,Aw]
 rw[e];have t:=hm.row (B6 ((k,L),on,b)).toNat (by omega);obtain⟨q,n,j⟩:=hm.act (B6 ((k,L),on,b)).toNat b.toNat (by omega) (by omega);refine⟨q,?_,j,rfl⟩;by_cases h:0<B6 ((k,L),on,b)
 ·exact(s h).2
 exact n (by omega)
def Mn(x:CP)(k:Int):FN:=JZ ((x.1,x.2.1),E5 (x.2.2.2.1,x.2.2.2.2.1),k)
def NC(x:CP)(k:Int)(h:Bool):FN:=Z' h (DR (Mn x k)) (DU (Mn x k))
def Bq(x:CP)(k:Int)(h:Bool):FN×CP:=EG (JV (NC x k h).2.1) x (NC x k h)
def Cq(x:CP)(k:Int)(h:Bool):CQ:=x.2.2.2.2.1++[(k,(Bq x k h).1)]
def GQ(x:CP)(k:Int)(h:Bool):List Cy:=Z' (W_ (g_ (Bq x k h).1.1 9) (b_ (Bq x k h).1.2.2.2 (V' x.2.2.1))) (GU (Cq x k h,So x.2.2.1 (R_ (Bq x k h).1.2.2.2) [])) []
def Fm(x:CP)(k:Int)(h:Bool):CP:=(x.1,x.2.1,x.2.2.1,(Bq x k h).2.2.2.2.1,Cq x k h,(Bq x k h).2.2.2.2.2.2)
theorem bU{x:CP}(i:EngOk x)(hs:Cg x)(k:Int)(h:Bool)(g:0<=k)(b:k<x.1):Zq x.2.1.length (NC x k h):=by
 have hm:=G9 hs.1 i.map;obtain⟨t,s,q,_⟩:=rq hm (E5 (x.2.2.2.1,x.2.2.2.2.1)) k g b;obtain⟨n,j⟩:=Zc5 t s q hm.l1;unfold NC Mn;cases h
 ·rw[CD];exact j
 rw[CK];exact n
theorem Zex(w:Bool)(c:Int){m on:Nat}(b:Bool)(h1:m<=15)(g:on<=15):TW w c m on b<=15:=by
 unfold TW;split
 ·omega
 have:=Nat.or_lt_two_pow (x:=m) (y:=on) (n:=4) (by omega) (by omega);omega
theorem ZhF(w:Bool){x:CP}(n:Nat)(G:n<=4){a:FN}(I:Zq n a)(b:0<=x.2.2.2.2.2.1)(j:x.2.2.2.2.2.1<=15)(D:0<=x.2.2.2.1)(Z:x.2.2.2.1 % 2=0)(f1:x.2.2.2.1<((2^n:Nat):Int)):(Cc (EG w x a).1=true/\(EG w x a).1.1=a.1/\(EG w x a).1.2.1=a.2.1/\(EG w x a).1.2.2.2=a.2.2.2) /\
 ((EG w x a).2.1=x.1/\(EG w x a).2.2.1=x.2.1/\(EG w x a).2.2.2.1=x.2.2.1/\(EG w x a).2.2.2.2.2.1=x.2.2.2.2.1) /\
 (0<=(EG w x a).2.2.2.2.2.2.1/\(EG w x a).2.2.2.2.2.2.1<=15)/\0<=(EG w x a).2.2.2.2.1/\(EG w x a).2.2.2.2.1 % 2=0/\(EG w x a).2.2.2.2.1<((2^n:Nat):Int):=by
 obtain⟨k,L,mc,f,hd,on,cp⟩:=x;obtain⟨g,c,m,p⟩:=a;obtain⟨h1,Y,N,J,q⟩:=I;have h:=(L8 g c m p).1 h1;simp only at b j D f1 Z Y N J q;obtain⟨F,rfl⟩:=Int.eq_ofNat_of_zero_le D;obtain⟨O,rfl⟩:=Int.eq_ofNat_of_zero_le b;obtain⟨M,rfl⟩:=Int.eq_ofNat_of_zero_le (show 0<=m by omega);obtain⟨P,rfl⟩:=Int.eq_ofNat_of_zero_le (show 0<=p by omega);have hF:F<2^n:=by omega
 have R:2^n<=2^4:=Nat.pow_le_pow_right (by omega) G;have U:(2:Nat)^4=16:=by decide
 unfold EG;simp only[AG];by_cases A:g=2
 ·subst A;by_cases C:0<c
  ·have:=Zex w c cp (m:=M) (on:=O) (by omega) (by omega);simp only[AX,Ad C];refine⟨⟨(L8 _ _ _ _).2 (.inr (.inl ⟨rfl,by omega,by omega,by omega,by omega,by omega,by omega⟩)),?_,?_,?_⟩,⟨?_,?_,?_,?_⟩,⟨?_,?_⟩,?_,?_,?_⟩<;>first|trivial|omega
  simp only[AX,Ae C];refine⟨⟨h1,?_,?_,?_⟩,⟨?_,?_,?_,?_⟩,⟨?_,?_⟩,?_,?_,?_⟩<;>first|trivial|omega
 rw[Ae A];by_cases z:g=4
 ·have hp:=q (by omega);obtain⟨t1,i⟩:=Zjm ⟨F,by omega⟩ ⟨P,by omega⟩ ⟨n,by omega⟩ (by simp only;omega) (by simp only;omega) (by simp only;omega) (by simp only;omega);simp only[Ad z];simp only at t1 i;refine⟨⟨h1,?_,?_,?_⟩,⟨?_,?_,?_,?_⟩,⟨?_,?_⟩,?_,?_,?_⟩<;>first|trivial|omega
 rw[Ae z];by_cases u:g=5
 ·have hp:=q (by omega);obtain⟨t1,i⟩:=ZjS ⟨P,by omega⟩ ⟨n,by omega⟩ (by simp only;omega);simp only[Ad u];simp only at t1 i;refine⟨⟨h1,?_,?_,?_⟩,⟨?_,?_,?_,?_⟩,⟨?_,?_⟩,?_,?_,?_⟩<;>first|trivial|omega
 rw[Ae u];by_cases s:g=8
 ·have t:=p9 O M;have i:=Nat.or_lt_two_pow (x:=O) (y:=M) (n:=4) (by omega) (by omega);simp only[Ad s];refine⟨⟨h1,?_,?_,?_⟩,⟨?_,?_,?_,?_⟩,⟨?_,?_⟩,?_,?_,?_⟩<;>first|trivial|omega|(split<;>omega)
 rw[Ae s];split
 ·exact⟨⟨h1,rfl,rfl,rfl⟩,⟨rfl,rfl,rfl,rfl⟩,⟨by simp only;omega,by simp only;omega⟩,by simp only;omega,by simp only;omega,by simp only;omega⟩
 exact⟨⟨h1,rfl,rfl,rfl⟩,⟨rfl,rfl,rfl,rfl⟩,⟨by simp only;omega,by simp only;omega⟩,by simp only;omega,by simp only;omega,by simp only;omega⟩
theorem Zk(h:Bool)(a b:FN):(Z' h a.1 b.1,Z' h a.2.1 b.2.1,Z' h a.2.2.1 b.2.2.1,Z' h a.2.2.2 b.2.2.2)=Z' h a b:=by
 cases h
 ·simp only[CD]
 simp only[CK]
theorem mV{x:CP}(b:EngOk x)(hs:Cg x)(k:Int)(h:Bool)(i:0<=k)(g:k<x.1):(Cc (Bq x k h).1=true/\(Bq x k h).1.1=(NC x k h).1/\(Bq x k h).1.2.1=(NC x k h).2.1/\(Bq x k h).1.2.2.2=(NC x k h).2.2.2) /\
 ((Bq x k h).2.1=x.1/\(Bq x k h).2.2.1=x.2.1/\(Bq x k h).2.2.2.1=x.2.2.1/\(Bq x k h).2.2.2.2.2.1=x.2.2.2.2.1) /\
 (0<=(Bq x k h).2.2.2.2.2.2.1/\(Bq x k h).2.2.2.2.2.2.1<=15)/\0<=(Bq x k h).2.2.2.2.1/\(Bq x k h).2.2.2.2.1 % 2=0/\(Bq x k h).2.2.2.2.1<((2^x.2.1.length:Nat):Int):=
 ZhF _ x.2.1.length (G9 hs.1 b.map).l2 (bU b hs k h i g) b.on0 b.on1 b.f0 b.f2 b.f1
theorem ZjC{x:CP}(i:EngOk x)(hs:Cg x)(k:Int)(h:Bool)(s:0<=k)(q:k<x.1)(J:∀a∈x.2.2.2.2.1,a.1≠k):EngOk (Fm x k h):=by
 have t:x.2.2.2.2.1.length<=1048576:=hs.2.2.1.1;have M:=cx t i.held;have hm:=G9 hs.1 i.map;have j:=bU i hs k h s q;obtain⟨⟨I,n,R,G⟩,_,⟨F,D⟩,C,A,z⟩:=mV i hs k h s q;obtain⟨O,N⟩:=(Tf t).1 i.held;have L:=hm.k2;refine⟨i.map,i.mac,i.macs,?_,?_,F,D,C,A,z⟩
 ·refine(Tf (by show (Cq x k h).length<=_;unfold Cq;simp;omega)).2 ⟨?_,?_⟩
  ·intro a g;change a∈Cq x k h at g;unfold Cq at g;rw[CI,List.mem_singleton]at g;rcases g with g|rfl
   ·exact O a g
   exact⟨s,by simp only;omega,I,by simp only;rw[n];exact j.2.1,by simp only;rw[n];exact j.2.2.1,by simp only;rw[n];exact j.2.2.2.1⟩
  show (Cq x k h).Pairwise _;unfold Cq;refine List.pairwise_append.2 ⟨N,List.pairwise_singleton _ _,λa j b u=>?_⟩;rw[List.mem_singleton]at u;subst u;exact J a j
 intro a g;change a∈Cq x k h at g;unfold Cq at g;rw[CI,List.mem_singleton]at g;rcases g with g|rfl
 ·exact i.hk a g
 refine⟨q,λy=>?_⟩;simp only at y ⊢;rw[G];exact j.2.2.2.2 (by rw[<- n];exact y)
theorem mW(x:CP)(k:Int)(h:Bool)(hs:Cg x)(g:CG x=false\/k<0\/x.1<=k\/0<=BP (x,k)):Qr (x,k,h)/\Qq (x,k,h)/\EN (x,k,h)=(HH,[],false)/\F0 (x,k,h)=(HH,[],false):=by
 have u:x.2.2.2.2.1.length<=1048576:=hs.2.2.1.1;obtain⟨q,n,C⟩:=Oi x hs;obtain⟨t,s⟩:=Xq (x,k) u;have i:∀y,Ek y:=λy=>by rw[Qy];trivial
 rw[kf,kt,kD,ki];unfold MG;simp only[Tp,<- C,Hs];cases j:CG x with
 | false=>
   have c2:U' false=true:=(by rw[Ax];rfl);have D:∀b,t8 true b=true:=λb=>(by rw[Bd];rfl);simp only[c2,D,CK];exact⟨⟨⟨q,λ_=>trivial,(λh=>by cases h)⟩,λ_=>trivial,(λh=>by cases h)⟩,⟨⟨n,λ_=>trivial,(λh=>by cases h)⟩,λ_=>trivial,(λh=>by cases h)⟩,rfl,rfl⟩
 | true=>
   have hm:=G9 hs.1 ((S8 x hs).1 j).map;have A:=hm.k1;have z:=hm.k2;have g:k<0\/x.1<=k\/0<=BP (x,k):=(by rcases g with g|g;rw[j]at g;cases g;exact g);have F:t8 (U' true) (t8 (U' (decide (0<=k)&&decide (k<=iSub .i64 x.1 1))) (iGe (BP (x,k)) 0))=true:=by
    simp only[Bd,Ax,CY,GH,Bool.false_or,Ce,Br,Gf,Bn,Ay];rw[FB (by unfold Bl;omega)];omega
   have c2:t8 (U' true) (t8 (b_ k 0) (t8 (iGe k x.1) (iGe (BP (x,k)) 0)))=true:=by
    simp only[Bd,Ax,CY,An,GH,Bool.false_or,Ce,Ay];omega
   simp only[F,c2,CK];exact⟨⟨⟨q,λ_=>trivial,λ_=>⟨i _,λ_=>trivial,λ_=>t⟩⟩,λ_=>trivial,λh=>by cases h⟩,⟨⟨n,λ_=>trivial,λ_=>⟨λ_=>trivial,λ_=>⟨λ_=>trivial,λ_=>s⟩⟩⟩,λ_=>trivial,λh=>by cases h⟩,rfl,rfl⟩
theorem ZgR(x:CP)(k:Int)(h:Bool)(hs:Cg x)(C:CG x=true)(t:0<=k)(D:k<x.1)(hn:BP (x,k)<0):Qr (x,k,h)/\Qq (x,k,h)/\EN (x,k,h)=(Fm x k h,Mq (Cb x.2.2.2.2.1) (GQ x k h++[Cb (Cq x k h)]),true) /\
 F0 (x,k,h)=(Fm x k h,Mq (Cb x.2.2.2.2.1) (GQ x k h++[Cb (Cq x k h)]),true)/\Gj (Cb x.2.2.2.2.1)/\Gj (Cb (Cq x k h))/\(∀r∈GQ x k h,Gj r)/\(GQ x k h).length<=1000:=by
 have u:x.2.2.2.2.1.length<=1048576:=hs.2.2.1.1;have n:=(S8 x hs).1 C;have hm:=G9 hs.1 n.map;have hk1:=hm.k1;have hk2:=hm.k2;have hl4:=hm.l2;have h32:=cx u n.held;obtain⟨e1,e2,e3⟩:=Oi x hs;obtain⟨q1,q2⟩:=Xq (x,k) u;obtain⟨c1,c2⟩:=bL x hs;obtain⟨d1,d2⟩:=aR x hs;have ag:=bU n hs k h t D;obtain⟨⟨s1,s2,s3,s4⟩,⟨s5,s6,s7,U⟩,_⟩:=mV n hs k h t D;have A:x.2.2.2.1<=15:=by
  have h2:2^x.2.1.length<=2^4:=Nat.pow_le_pow_right (by omega) hl4;have:=n.f1;omega
 obtain⟨t1,t2,t3,t4⟩:=Zge x (NC x k h) ag.1 n.f0 A n.on0 n.on1;obtain⟨_,_,_,ea⟩:=rq hm (E5 (x.2.2.2.1,x.2.2.2.2.1)) k t D;obtain⟨la1,la2,_,_⟩:=kP hm (E5 (x.2.2.2.1,x.2.2.2.2.1)) k t D;have hv:SU ((x.1,x.2.1),E5 (x.2.2.2.1,x.2.2.2.2.1),k)=B6 ((x.1,x.2.1),E5 (x.2.2.2.1,x.2.2.2.2.1),k):=by
  rw[B6.eq_1 ((x.1,x.2.1),E5 (x.2.2.2.1,x.2.2.2.2.1),k)];simp only;rw[n.map,Bd,Bd,Ax,An,CY,C7 (by omega),C7 (by omega)];simp only[GH,Bool.or_self,CD]
 have S2:Cv (x,k,h)=Mn x k:=by
  unfold Cv Mn;simp only[lC,Zdx _ _ _ _ hs.1]
 have G:B5 (x,k,h)=Bq x k h:=by
  unfold B5;simp only[S2,c2,Zk];exact t3
 have I1:JY (x,k,h)=B6 ((x.1,x.2.1),E5 (x.2.2.2.1,x.2.2.2.2.1),k):=hv;have eg:So (So x.2.1 (R_ (B6 ((x.1,x.2.1),E5 (x.2.2.2.1,x.2.2.2.2.1),k))) []) (R_ k) (0,0,0,0)=Mn x k:=by
  rw[AJ,AJ,Aw,Aw];exact ea.symm
 have I2:EI (x,k,h)=DU (Mn x k):=by
  unfold EI;simp only[I1,eg,Zg7]
 have I3:EJ (x,k,h)=DR (Mn x k):=by
  unfold EJ;simp only[I1,eg,Zf1]
 have I:B4 (x,k,h)=Bq x k h:=by
  unfold B4;simp only[I2,I3,d2,Zk];exact t4
 have H:i9 (Bq x k h).2.2.2.2.2.1 [(k,(Bq x k h).1)]=Cq x k h:=by rw[BL,U];rfl
 have E:∀z:CP,((Bq x k h).2.1,(Bq x k h).2.2.1,(Bq x k h).2.2.2.1,(Bq x k h).2.2.2.2.1,Cq x k h,(Bq x k h).2.2.2.2.2.2)=Fm x k h:=λ_=>by
  unfold Fm;rw[s5,s6,s7]
 have hP:(Cq x k h).length<=1048576:=by unfold Cq;simp;omega
 obtain⟨r1,r2,Z,Y⟩:=LG x.2.2.2.2.1 u;obtain⟨u1,u2,u3,J⟩:=LG (Cq x k h) hP;rw[Z]at Y;rw[u3]at J;have S4:SD (x,k,h)=Cb (Cq x k h):=by unfold SD;simp only[G,H]
 have S5:SE (x,k,h)=GU (Cq x k h,So x.2.2.1 (R_ (Bq x k h).1.2.2.2) []):=by unfold SE;simp only[G,H]
 have I5:Sv (x,k,h)=Cb (Cq x k h):=by unfold Sv;simp only[I,H,u3]
 have b:W_ (g_ (Bq x k h).1.1 9) (b_ (Bq x k h).1.2.2.2 (V' x.2.2.1))=true->((0:Int)<=(Bq x k h).1.2.2.2/\(Bq x k h).1.2.2.2<(x.2.2.1.length:Int))/\R_ (Bq x k h).1.2.2.2<x.2.2.1.length /\
  RI (Cq x k h,So x.2.2.1 (R_ (Bq x k h).1.2.2.2) [])/\RJ (Cq x k h,So x.2.2.1 (R_ (Bq x k h).1.2.2.2) [])/\RO (Cq x k h,So x.2.2.1 (R_ (Bq x k h).1.2.2.2) [])=GU (Cq x k h,So x.2.2.1 (R_ (Bq x k h).1.2.2.2) []) /\
  (GU (Cq x k h,So x.2.2.1 (R_ (Bq x k h).1.2.2.2) [])).length<=1000/\∀r∈GU (Cq x k h,So x.2.2.1 (R_ (Bq x k h).1.2.2.2) []),Gj r:=by
  intro j;rw[AB,BF,An,Al,Aj,Ay,Ay]at j;obtain⟨g1,g2⟩:=j;have h0:0<=(Bq x k h).1.2.2.2:=(Zkv s1).1;have hi:R_ (Bq x k h).1.2.2.2<x.2.2.1.length:=(by rw[Aw];omega);have q:=(hs.2.1.2 _ (Cd x.2.2.1 (R_ (Bq x k h).1.2.2.2) [] hi)).1;rw[<- AJ]at q;obtain⟨m1,m2,m3,⟨m4,m5⟩,_⟩:=xr (Cq x k h) (So x.2.2.1 (R_ (Bq x k h).1.2.2.2) []) hP q;exact⟨⟨h0,g2⟩,hi,m1,m2,m3,m4,m5⟩
 have I6:Z' (W_ (g_ (Bq x k h).1.1 9) (b_ (Bq x k h).1.2.2.2 (V' x.2.2.1))) (Sw (x,k,h)) []=GQ x k h:=by
  unfold GQ;cases hb:W_ (g_ (Bq x k h).1.1 9) (b_ (Bq x k h).1.2.2.2 (V' x.2.2.1))with
  |false=>rw[CD,CD]
  | true=>
    rw[CK,CK];unfold Sw;simp only[I,H];exact(b hb).2.2.2.2.1
 have s:(GQ x k h).length<=1000/\∀r∈GQ x k h,Gj r:=by
  unfold GQ;cases hb:W_ (g_ (Bq x k h).1.1 9) (b_ (Bq x k h).1.2.2.2 (V' x.2.2.1))with
  |false=>rw[CD];exact⟨by simp,by simp⟩
  |true=>rw[CK];exact(b hb).2.2.2.2.2
 have M:Z' (W_ (g_ (Bq x k h).1.1 9) (b_ (Bq x k h).1.2.2.2 (V' x.2.2.1))) (GU (Cq x k h,So x.2.2.1 (R_ (Bq x k h).1.2.2.2) [])) []=GQ x k h:=rfl;obtain⟨g1,g2,g3,g4⟩:=ZdU (Cb x.2.2.2.2.1) (GQ x k h++[Cb (Cq x k h)]) Y (by have:=s.1;simp;omega) (by
  intro r F;rw[CI,List.mem_singleton]at F;rcases F with F|rfl
  ·exact s.2 r F
  exact J)
 have i:AE ((x.2.2.2.2.1.length+[(k,(Bq x k h).1)].length)*5):=by unfold AE;simp only[A0,A7];omega
 have g:AE (((GQ x k h).length+[Cb (Cq x k h)].length)*2):=by have:=s.1;unfold AE;simp only[A0,A7];omega
 obtain⟨R,O,N,L⟩:=ZeN (Mn x k);have okl:∀y,Ek y:=λy=>by rw[Qy];trivial
 have ola:=mn x.1 x.2.1 (E5 (x.2.2.2.1,x.2.2.2.2.1)) k hs.1;have bs:t8 (U' true) (t8 (U' (decide (0<=k)&&decide (k<=iSub .i64 x.1 1))) (iGe (BP (x,k)) 0))=false:=by
  rw[FB (by unfold Bl;omega),Bd,Bd,Ax,Ax,CY,FC (by omega),FC (by omega),C7 (by omega)];rfl
 have bi:t8 (U' true) (t8 (b_ k 0) (t8 (iGe k x.1) (iGe (BP (x,k)) 0)))=false:=by
  rw[Bd,Bd,Bd,Ax,An,CY,CY,C7 (by omega),C7 (by omega),C7 (by omega)];rfl
 have S1:MG (x,k,h)=(decide (0<=k)&&decide (k<=iSub .i64 x.1 1)):=by unfold MG;rw[Hs]
 refine⟨?_,?_,?_,?_,Y,J,s.2,s.1⟩
 ·rw[kf];simp only[Tp,<- e3,C,S1,S2,G,S4,S5,H,M,bs,c2,Zk,lC];refine⟨⟨e1,λ_=>trivial,λ_=>⟨okl _,λ_=>trivial,λ_=>q1⟩⟩,(λh=>by cases h),λ_=>⟨c1,vm _ _ u,(ZdL _ _ _ _ hs.1).1,⟨λ_=>R,λ_=>O⟩,t1,by rw[U];exact i,⟨λj=>⟨(b j).1,(b j).2.1,(b j).2.2.1⟩,λ_=>trivial⟩,u1,g,r1,by rw[BL];exact g1,trivial,trivial,trivial⟩⟩
 ·rw[kt,Zb0];have hrow:=hm.row (B6 ((x.1,x.2.1),E5 (x.2.2.2.1,x.2.2.2.2.1),k)).toNat (by omega);have okA:SB ((x.1,x.2.1),E5 (x.2.2.2.1,x.2.2.2.2.1),k):=by
   have:=ola.2;rw[Wk.eq_1]at this;refine this.2.2 ?_;simp only;rw[n.map,Bd,Bd,Ax,An,CY,C7 (by omega),C7 (by omega)];rfl
  simp only[C,bi,I1,eg,I2,I3,I,I5,I6,H,d2,Zk,Z];refine⟨⟨e2,λ_=>trivial,λ_=>⟨λ_=>trivial,λ_=>⟨λ_=>trivial,λ_=>q2⟩⟩⟩,(λh=>by cases h),λ_=>⟨d1,vp _ _ u,okA,⟨la1,la2⟩,by rw[Aw];omega,⟨t,?_⟩,?_,⟨λ_=>N,λ_=>L⟩,t2,by rw[U];exact i,⟨λj=>⟨(b j).1,(b j).2.1,(b j).2.2.2.1⟩,λ_=>trivial⟩,u2,g,r2,by rw[BL];exact g2,trivial,trivial,trivial⟩⟩
  ·rw[AJ,Aw];omega
  rw[AJ,Aw,Aw];omega
 ·rw[kD];simp only[Tp,<- e3,C,S1,G,S4,S5,H,M,bs,CD,BL,g3,E x]
 rw[ki,Zcl];simp only[C,bi,I,I5,I6,H,CD,BL,Z,g4,E x]
end
end
end Go.Ag
