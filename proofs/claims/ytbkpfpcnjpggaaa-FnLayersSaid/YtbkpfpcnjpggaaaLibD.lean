/- Part 4 of what FnLayers needs. No conditions. -/
import Derived.Test.YtbkpfpcnjpggaaaLibC
namespace Go.Ag
set_option linter.unusedSimpArgs false
set_option linter.unusedVariables false
noncomputable section
noncomputable section
def shut.{u}{α:Sort u}(a:α):{x:α // x=a}:=Classical.choice ⟨⟨a,rfl⟩⟩
section
variable {α:Type}
def gT(k:IntKind)(a b:Int):Int:=k.wrap (a+b)
def gV(k:IntKind)(a b:Int):Int:=k.wrap (a-b)
def gK(k:IntKind)(a b:Int):Int:=k.wrap (a*b)
def ia(k:IntKind)(a b:Int):Int:=k.wrap (a.tdiv b)
def gS(a b:Int):Int:=a.tmod b
def gN(k:IntKind)(a b:Int):Int:=k.wrap (BitVec.ofInt k.bits a &&& BitVec.ofInt k.bits b).toNat
def iV(k:IntKind)(a b:Int):Int:=k.wrap (BitVec.ofInt k.bits a ||| BitVec.ofInt k.bits b).toNat
def gJ(k:IntKind)(a b:Int):Int:=k.wrap (BitVec.ofInt k.bits a ^^^ BitVec.ofInt k.bits b).toNat
def dM(k:IntKind)(a b:Int):Int:=k.wrap (BitVec.ofInt k.bits a &&& ~~~BitVec.ofInt k.bits b).toNat
def gW(k:IntKind)(a b:Int):Int:=k.wrap (a*2^min b.toNat k.bits)
def ik(k:IntKind)(a b:Int):Int:=a.fdiv (2^min b.toNat k.bits)
def gZ(k:IntKind)(a:Int):Int:=k.wrap (0-a)
def gg(k:IntKind)(a:Int):Int:=k.wrap a
def hF(a b:Int):Int:=if b<a then b else a
def iH(a b:Int):Int:=if b > a then b else a
def iE(a:Int):Nat:=a.toNat
def iT(a b:Int):Bool:=a == b
def iO(a b:Int):Bool:=a != b
def iW(a b:Int):Bool:=decide (a<b)
def iS(a b:Int):Bool:=decide (a≤b)
def iK(a b:Int):Bool:=decide (a > b)
def iM(a b:Int):Bool:=decide (a≥b)
def im(a b:List UInt8):List UInt8:=a++b
def iP(a b:List UInt8):Bool:=a == b
def iR(a b:List UInt8):Bool:=!(a == b)
def gR(s:List UInt8)(j:Int):Int:=(s.getD j.toNat 0).toNat
def iA(s:List UInt8):List Int:=s.map fun b=>((b.toNat:Nat):Int)
def ic(l:List Int):List UInt8:=l.map fun n=>UInt8.ofNat n.toNat
def iB(l:List α):Int:=l.length
def iX(l:List α):Nat:=l.length
def iD(l:List α)(j:Nat)(d:α):α:=l.getD j d
def gU(l:List α)(j:Nat)(x:α):List α:=l.set j x
def gX(l:List α)(a b:Nat):List α:=(l.drop a).take (b-a)
def fX(l:List α)(n:Nat):List α:=l.take n
def ig(l m:List α):List α:=l++m
def il(n:Int)(x:α):List α:=List.replicate n.toNat x
def gY(a:Bool):Bool:=!a
def gO(a b:Bool):Bool:=a&&b
def iU(a b:Bool):Bool:=a||b
def iy(a b:Bool):Bool:=a == b
def iw(c:Bool)(x y:α):α:=bif c then x else y
end
structure Leaf where
 iAdd:∀ (k:IntKind) (a b:Int),Int
 iSub:∀ (k:IntKind) (a b:Int),Int
 iMul:∀ (k:IntKind) (a b:Int),Int
 iQuo:∀ (k:IntKind) (a b:Int),Int
 iRem:∀ (a b:Int),Int
 iAnd:∀ (k:IntKind) (a b:Int),Int
 iOr:∀ (k:IntKind) (a b:Int),Int
 iXor:∀ (k:IntKind) (a b:Int),Int
 iAndNot:∀ (k:IntKind) (a b:Int),Int
 iShl:∀ (k:IntKind) (a b:Int),Int
 iShr:∀ (k:IntKind) (a b:Int),Int
 iNeg:∀ (k:IntKind) (a:Int),Int
 iConv:∀ (k:IntKind) (a:Int),Int
 iMin:∀ (a b:Int),Int
 iMax:∀ (a b:Int),Int
 iNat:∀ (a:Int),Nat
 iEq:∀ (a b:Int),Bool
 iNe:∀ (a b:Int),Bool
 iLt:∀ (a b:Int),Bool
 iLe:∀ (a b:Int),Bool
 iGt:∀ (a b:Int),Bool
 iGe:∀ (a b:Int),Bool
 sAdd:∀ (a b:List UInt8),List UInt8
 sEq:∀ (a b:List UInt8),Bool
 sNe:∀ (a b:List UInt8),Bool
 sGet:∀ (s:List UInt8) (j:Int),Int
 sRow:∀ (s:List UInt8),List Int
 rowS:∀ (l:List Int),List UInt8
 lLen:∀ {α:Type} (l:List α),Int
 lN:∀ {α:Type} (l:List α),Nat
 lGet:∀ {α:Type} (l:List α) (j:Nat) (d:α),α
 lSet:∀ {α:Type} (l:List α) (j:Nat) (x:α),List α
 lSub:∀ {α:Type} (l:List α) (a b:Nat),List α
 lTake:∀ {α:Type} (l:List α) (n:Nat),List α
 lApp:∀ {α:Type} (l m:List α),List α
 lRep:∀ {α:Type} (n:Int) (x:α),List α
 bNot:∀ (a:Bool),Bool
 bAnd:∀ (a b:Bool),Bool
 bOr:∀ (a b:Bool),Bool
 bIff:∀ (a b:Bool),Bool
 bSel:∀ {α:Type} (c:Bool) (x y:α),α
def W6:Leaf:=⟨@gT,@gV,@gK,@ia,@gS,@gN,@iV,@gJ,@dM,@gW,@ik,@gZ,@gg,@hF,@iH,@iE,@iT,@iO,@iW,@iS,@iK,@iM,@im,@iP,@iR,@gR,@iA,@ic,@iB,@iX,@iD,@gU,@gX,@fX,@ig,@il,@gY,@gO,@iU,@iy,@iw⟩
def As:{l:Leaf // l=W6}:=Classical.choice ⟨⟨W6,rfl⟩⟩
section
variable {α:Type}
@[irreducible] def iAdd(k:IntKind)(a b:Int):Int:=As.1.iAdd k a b
theorem W1(k:IntKind)(a b:Int):iAdd k a b=(k.wrap (a+b)):=by unfold iAdd;rw[As.2];rfl
@[irreducible] def iSub(k:IntKind)(a b:Int):Int:=As.1.iSub k a b
theorem Ww(k:IntKind)(a b:Int):iSub k a b=(k.wrap (a-b)):=by unfold iSub;rw[As.2];rfl
@[irreducible] def iMul(k:IntKind)(a b:Int):Int:=As.1.iMul k a b
theorem Wv(k:IntKind)(a b:Int):iMul k a b=(k.wrap (a*b)):=by unfold iMul;rw[As.2];rfl
@[irreducible] def iQuo(k:IntKind)(a b:Int):Int:=As.1.iQuo k a b
theorem gi(k:IntKind)(a b:Int):iQuo k a b=(k.wrap (a.tdiv b)):=by unfold iQuo;rw[As.2];rfl
@[irreducible] def iRem(a b:Int):Int:=As.1.iRem a b
theorem WI(a b:Int):iRem a b=(a.tmod b):=by unfold iRem;rw[As.2];rfl
@[irreducible] def iAnd(k:IntKind)(a b:Int):Int:=As.1.iAnd k a b
theorem WX(k:IntKind)(a b:Int):iAnd k a b=(k.wrap (BitVec.ofInt k.bits a &&& BitVec.ofInt k.bits b).toNat):=by unfold iAnd;rw[As.2];rfl
@[irreducible] def iOr(k:IntKind)(a b:Int):Int:=As.1.iOr k a b
theorem gM(k:IntKind)(a b:Int):iOr k a b=(k.wrap (BitVec.ofInt k.bits a ||| BitVec.ofInt k.bits b).toNat):=by unfold iOr;rw[As.2];rfl
@[irreducible] def iXor(k:IntKind)(a b:Int):Int:=As.1.iXor k a b
theorem gj(k:IntKind)(a b:Int):iXor k a b=(k.wrap (BitVec.ofInt k.bits a ^^^ BitVec.ofInt k.bits b).toNat):=by unfold iXor;rw[As.2];rfl
@[irreducible] def iAndNot(k:IntKind)(a b:Int):Int:=As.1.iAndNot k a b
theorem bz(k:IntKind)(a b:Int):iAndNot k a b=(k.wrap (BitVec.ofInt k.bits a &&& ~~~BitVec.ofInt k.bits b).toNat):=by unfold iAndNot;rw[As.2];rfl
@[irreducible] def iShl(k:IntKind)(a b:Int):Int:=As.1.iShl k a b
theorem fS(k:IntKind)(a b:Int):iShl k a b=(k.wrap (a*2^min b.toNat k.bits)):=by unfold iShl;rw[As.2];rfl
@[irreducible] def iShr(k:IntKind)(a b:Int):Int:=As.1.iShr k a b
theorem gE(k:IntKind)(a b:Int):iShr k a b=(a.fdiv (2^min b.toNat k.bits)):=by unfold iShr;rw[As.2];rfl
@[irreducible] def iNeg(k:IntKind)(a:Int):Int:=As.1.iNeg k a
theorem gA(k:IntKind)(a:Int):iNeg k a=(k.wrap (0-a)):=by unfold iNeg;rw[As.2];rfl
@[irreducible] def iConv(k:IntKind)(a:Int):Int:=As.1.iConv k a
theorem eZ(k:IntKind)(a:Int):iConv k a=(k.wrap a):=by unfold iConv;rw[As.2];rfl
@[irreducible] def iMin(a b:Int):Int:=As.1.iMin a b
theorem gC(a b:Int):iMin a b=(if b<a then b else a):=by unfold iMin;rw[As.2];rfl
@[irreducible] def iMax(a b:Int):Int:=As.1.iMax a b
theorem RZ(a b:Int):iMax a b=(if b > a then b else a):=by unfold iMax;rw[As.2];rfl
@[irreducible] def iNat(a:Int):Nat:=As.1.iNat a
theorem RY(a:Int):iNat a=(a.toNat):=by unfold iNat;rw[As.2];rfl
@[irreducible] def iEq(a b:Int):Bool:=As.1.iEq a b
theorem Pq(a b:Int):iEq a b=(a == b):=by unfold iEq;rw[As.2];rfl
@[irreducible] def iNe(a b:Int):Bool:=As.1.iNe a b
theorem W9(a b:Int):iNe a b=(a != b):=by unfold iNe;rw[As.2];rfl
@[irreducible] def iLt(a b:Int):Bool:=As.1.iLt a b
theorem Xe(a b:Int):iLt a b=(decide (a<b)):=by unfold iLt;rw[As.2];rfl
@[irreducible] def iLe(a b:Int):Bool:=As.1.iLe a b
theorem W8(a b:Int):iLe a b=(decide (a≤b)):=by unfold iLe;rw[As.2];rfl
@[irreducible] def iGt(a b:Int):Bool:=As.1.iGt a b
theorem Xj(a b:Int):iGt a b=(decide (a > b)):=by unfold iGt;rw[As.2];rfl
@[irreducible] def iGe(a b:Int):Bool:=As.1.iGe a b
theorem Xf(a b:Int):iGe a b=(decide (a≥b)):=by unfold iGe;rw[As.2];rfl
@[irreducible] def sAdd(a b:List UInt8):List UInt8:=As.1.sAdd a b
theorem WW(a b:List UInt8):sAdd a b=(a++b):=by unfold sAdd;rw[As.2];rfl
@[irreducible] def sEq(a b:List UInt8):Bool:=As.1.sEq a b
theorem Xd(a b:List UInt8):sEq a b=(a == b):=by unfold sEq;rw[As.2];rfl
@[irreducible] def sNe(a b:List UInt8):Bool:=As.1.sNe a b
theorem Xg(a b:List UInt8):sNe a b=(!(a == b)):=by unfold sNe;rw[As.2];rfl
@[irreducible] def sGet(s:List UInt8)(j:Int):Int:=As.1.sGet s j
theorem fY(s:List UInt8)(j:Int):sGet s j=((s.getD j.toNat 0).toNat):=by unfold sGet;rw[As.2];rfl
@[irreducible] def sRow(s:List UInt8):List Int:=As.1.sRow s
theorem gq(s:List UInt8):sRow s=(s.map fun b=>((b.toNat:Nat):Int)):=by unfold sRow;rw[As.2];rfl
@[irreducible] def rowS(l:List Int):List UInt8:=As.1.rowS l
theorem gH(l:List Int):rowS l=(l.map fun n=>UInt8.ofNat n.toNat):=by unfold rowS;rw[As.2];rfl
@[irreducible] def lLen(l:List α):Int:=As.1.lLen l
theorem RF(l:List α):lLen l=(l.length):=by unfold lLen;rw[As.2];rfl
@[irreducible] def lN(l:List α):Nat:=As.1.lN l
theorem MF(l:List α):lN l=(l.length):=by unfold lN;rw[As.2];rfl
@[irreducible] def lGet(l:List α)(j:Nat)(d:α):α:=As.1.lGet l j d
theorem Ki(l:List α)(j:Nat)(d:α):lGet l j d=(l.getD j d):=by unfold lGet;rw[As.2];rfl
@[irreducible] def lSet(l:List α)(j:Nat)(x:α):List α:=As.1.lSet l j x
theorem LX(l:List α)(j:Nat)(x:α):lSet l j x=(l.set j x):=by unfold lSet;rw[As.2];rfl
@[irreducible] def lSub(l:List α)(a b:Nat):List α:=As.1.lSub l a b
theorem R4(l:List α)(a b:Nat):lSub l a b=((l.drop a).take (b-a)):=by unfold lSub;rw[As.2];rfl
@[irreducible] def lTake(l:List α)(n:Nat):List α:=As.1.lTake l n
theorem Re(l:List α)(n:Nat):lTake l n=(l.take n):=by unfold lTake;rw[As.2];rfl
@[irreducible] def lApp(l m:List α):List α:=As.1.lApp l m
theorem IX(l m:List α):lApp l m=(l++m):=by unfold lApp;rw[As.2];rfl
@[irreducible] def lRep(n:Int)(x:α):List α:=As.1.lRep n x
theorem WN(n:Int)(x:α):lRep n x=(List.replicate n.toNat x):=by unfold lRep;rw[As.2];rfl
@[irreducible] def bNot(a:Bool):Bool:=As.1.bNot a
theorem Ks(a:Bool):bNot a=(!a):=by unfold bNot;rw[As.2];rfl
@[irreducible] def bAnd(a b:Bool):Bool:=As.1.bAnd a b
theorem RL(a b:Bool):bAnd a b=(a&&b):=by unfold bAnd;rw[As.2];rfl
@[irreducible] def bOr(a b:Bool):Bool:=As.1.bOr a b
theorem Xn(a b:Bool):bOr a b=(a||b):=by unfold bOr;rw[As.2];rfl
@[irreducible] def bIff(a b:Bool):Bool:=As.1.bIff a b
theorem Wz(a b:Bool):bIff a b=(a == b):=by unfold bIff;rw[As.2];rfl
@[irreducible] def bSel(c:Bool)(x y:α):α:=As.1.bSel c x y
theorem Sj(c:Bool)(x y:α):bSel c x y=(bif c then x else y):=by unfold bSel;rw[As.2];rfl
end
mutual
inductive CT where
 |int (k:IntKind)|bool|str|ifc|sl (r:RT)
inductive RT where
 |one (t:CT)|cons (t:CT) (r:RT)
end
abbrev jd:RT:=.cons (.int .i64) (.cons (.int .i64) (.one (.int .i64)))
abbrev FO:RT:=.cons (.int .i64) (.cons (.int .i64) (.cons (.int .i64) (.one (.int .i64))))
abbrev jc:RT:=.cons (.int .i64) (.cons (.int .i64) (.cons (.int .i64) (.cons (.int .i64) (.one (.int .i64)))))
mutual
def CT.D:CT→Type
 |.int _=>Int
 |.bool=>Bool
 |.str=>List UInt8
 |.ifc=>Bool
 |.sl r=>List r.D
def RT.D:RT→Type
 |.one t=>t.D
 |.cons t r=>t.D×r.D
end
def RT.w:RT→Nat
 |.one _=>1
 |.cons _ r=>r.w+1
def CT.dflt:(t:CT)→t.D
 |.int _=>(0:Int)
 |.bool=>false
 |.str=>([]:List UInt8)
 |.ifc=>true
 |.sl r=>([]:List r.D)
def RT.dflt:(r:RT)→r.D
 |.one t=>t.dflt
 |.cons t r=>(t.dflt,r.dflt)
mutual
def CT.beq:CT→CT→Bool
 |.int k,.int k'=>decide (k=k')
 |.bool,.bool=>true
 |.str,.str=>true
 |.ifc,.ifc=>true
 |.sl r,.sl r'=>RT.beq r r'
 |_,_=>false
def RT.beq:RT→RT→Bool
 |.one t,.one t'=>CT.beq t t'
 |.cons t r,.cons t' r'=>CT.beq t t'&&RT.beq r r'
 |_,_=>false
end
mutual
theorem CT.beq_eq:∀ {a b:CT},CT.beq a b=true→a=b
 |.int k,.int k',h=>by simp only[CT.beq,A7] at h;rw[h]
 |.bool,.bool,_=>rfl
 |.str,.str,_=>rfl
 |.ifc,.ifc,_=>rfl
 |.sl r,.sl r',h=>by rw[RT.beq_eq (a:=r) (b:=r') h]
 |.int _,.bool,h|.int _,.str,h|.int _,.ifc,h|.int _,.sl _,h=>by cases h
 |.bool,.int _,h|.bool,.str,h|.bool,.ifc,h|.bool,.sl _,h=>by cases h
 |.str,.int _,h|.str,.bool,h|.str,.ifc,h|.str,.sl _,h=>by cases h
 |.ifc,.int _,h|.ifc,.bool,h|.ifc,.str,h|.ifc,.sl _,h=>by cases h
 |.sl _,.int _,h|.sl _,.bool,h|.sl _,.str,h|.sl _,.ifc,h=>by cases h
theorem RT.beq_eq:∀ {a b:RT},RT.beq a b=true→a=b
 |.one t,.one t',h=>by rw[CT.beq_eq (a:=t) (b:=t') h]
 | .cons t r,.cons t' r',h=>by
   simp only[RT.beq,Ah] at h
   rw[CT.beq_eq h.1,RT.beq_eq h.2]
 |.one _,.cons _ _,h=>by cases h
 |.cons _ _,.one _,h=>by cases h
end
def I7{r' r:RT}(l:List r'.D):Option (List r.D):=if h:RT.beq r' r=true then some ((congrArg (fun x:RT=>List x.D) (RT.beq_eq h)).mp l) else none
inductive BX where
 |lit (b:Bool)|dyn (b:Bool)
def BX.b:BX→Bool
 |.lit b=>b
 |.dyn b=>b
inductive DV where
 |any
 |undef
 |bool (b:BX)
 |int (k:IntKind) (n:Int)
 |str (s:List UInt8)
 |ifc (b:Bool)
 |nil (q:Ql)
 |sl (q:Ql) (r:RT) (l:List r.D)
 |ep (q:Ql) (r:RT) (l:List r.D) (j o:Nat)
 |box (i o:Nat)
 |ptr (i o:Nat)
 |agg (cs:List DV)
 |tup (vs:List DV)
 deriving Inhabited
mutual
def CT.enc:(t:CT)→t.D→PV
 |.int k,n=>.fl (.int k n)
 |.bool,b=>.fl (.bool b)
 |.str,s=>.fl (.str s)
 |.ifc,b=>.fl (.ifc b)
 |.sl r,l=>.sl .own (l.map (RT.enc r))
def RT.enc:(r:RT)→r.D→List PV
 |.one t,x=>[CT.enc t x]
 |.cons t r,x=>CT.enc t x.1::RT.enc r x.2
end
mutual
def DV.enc:DV→PV
 |.any=>.fl .undef
 |.undef=>.fl .undef
 |.bool b=>.fl (.bool b.b)
 |.int k n=>.fl (.int k n)
 |.str s=>.fl (.str s)
 |.ifc b=>.fl (.ifc b)
 |.nil q=>.sl q []
 |.sl q r l=>.sl q (l.map r.enc)
 |.ep q r l j o=>.ep q (l.map r.enc) j o
 |.box i o=>.box i o
 |.ptr i o=>.ptr i o
 |.agg cs=>.agg (DV.encL cs)
 |.tup vs=>.tup (DV.encL vs)
def DV.encL:List DV→List PV
 |[]=>[]
 |v::r=>v.enc::DV.encL r
end
def CT.dv(q:Ql):(t:CT)→t.D→DV
 |.int k,n=>.int k n
 |.bool,b=>.bool (.dyn b)
 |.str,s=>.str s
 |.ifc,b=>.ifc b
 |.sl r,l=>.sl q r l
def RT.dv(q:Ql):(r:RT)→r.D→List DV
 |.one t,x=>[CT.dv q t x]
 |.cons t r,x=>CT.dv q t x.1::RT.dv q r x.2
def CT.of:(t:CT)→DV→Option t.D
 |.int k,.int k' n=>if k=k' then some n else none
 |.bool,.bool b=>some b.b
 |.str,.str s=>some s
 |.ifc,.ifc b=>some b
 |.sl r,.nil .own=>some ([]:List r.D)
 |.sl r,.sl .own r' l=>I7 (r':=r') (r:=r) l
 |_,_=>none
def RT.of:(r:RT)→List DV→Option r.D
 |.one t,[v]=>t.of v
 | .cons t r,v::vs=>(match t.of v,r.of vs with
   |some x,some y=>some (x,y)
   |_,_=>none)
 |_,_=>none
def DV.ty:DV→Option CT
 |.int k _=>some (.int k)
 |.bool _=>some .bool
 |.str _=>some .str
 |.ifc _=>some .ifc
 |.sl _ r _=>some (.sl r)
 |_=>none
def S4:List DV→Option RT
 |[]=>none
 |[v]=>v.ty.map .one
 | v::r=>(match v.ty,S4 r with
   |some t,some r=>some (.cons t r)
   |_,_=>none)
def DV.cells:DV→List DV
 |.agg cs=>cs
 |v=>[v]
def Ql.own':Ql→Bool
 |.own|.ownw _=>true
 |_=>false
def Ql.bor' (hd:Hd):Ql→Bool
 |.bor h _ _=>h == hd
 |.pre h _=>h == hd
 |_=>false
mutual
def DV.own:DV→Bool
 |.nil q=>q.own'
 |.sl q _ _=>q.own'
 |.agg cs=>DV.ownL cs
 |.tup vs=>DV.ownL vs
 |_=>false
def DV.ownL:List DV→Bool
 |[]=>false
 |v::r=>v.own||DV.ownL r
end
mutual
def DV.bor(hd:Hd):DV→Bool
 |.nil q=>q.bor' hd
 |.sl q _ _=>q.bor' hd
 |.ep q _ _ _ _=>q.bor' hd
 |.agg cs=>DV.borL hd cs
 |.tup vs=>DV.borL hd vs
 |_=>false
def DV.borL(hd:Hd):List DV→Bool
 |[]=>false
 |v::r=>v.bor hd||DV.borL hd r
end
mutual
def DV.hold:DV→Bool
 |.nil q=>(match q with|.frz=>false|_=>true)
 |.sl q _ _=>(match q with|.frz=>false|_=>true)
 |.ep q _ _ _ _=>(match q with|.frz=>false|_=>true)
 |.agg cs=>DV.holdL cs
 |.tup vs=>DV.holdL vs
 |_=>false
def DV.holdL:List DV→Bool
 |[]=>false
 |v::r=>v.hold||DV.holdL r
end
mutual
def DV.fz:DV→DV
 |.nil _=>.nil .frz
 |.sl _ r l=>.sl .frz r l
 |.ep _ r l j o=>.ep .frz r l j o
 |.agg cs=>.agg (DV.fzL cs)
 |.tup vs=>.tup (DV.fzL vs)
 |v=>v
def DV.fzL:List DV→List DV
 |[]=>[]
 |v::r=>v.fz::DV.fzL r
end
def Ql.detop:Ql→Ql
 |.bor h p _=>.bor h p false
 |.pre h p=>.bor h p false
 |q=>q
mutual
def DV.detop:DV→DV
 |.nil q=>.nil q.detop
 |.sl q r l=>.sl q.detop r l
 |.ep q r l j o=>.ep q.detop r l j o
 |.agg cs=>.agg (DV.detopL cs)
 |.tup vs=>.tup (DV.detopL vs)
 |v=>v
def DV.detopL:List DV→List DV
 |[]=>[]
 |v::r=>v.detop::DV.detopL r
end
mutual
def DV.hasPtr:DV→Bool
 |.ptr _ _=>true
 |.agg cs=>DV.hasPtrL cs
 |.tup vs=>DV.hasPtrL vs
 |_=>false
def DV.hasPtrL:List DV→Bool
 |[]=>false
 |v::r=>v.hasPtr||DV.hasPtrL r
end
mutual
def DV.deep:DV→Bool
 |.undef|.bool _|.int _ _|.str _|.ifc _=>true
 |.nil q=>q.own'
 |.sl q _ _=>q.own'
 |.agg cs=>DV.deepL cs
 |.tup vs=>DV.deepL vs
 |.ptr _ _=>true
 |_=>false
def DV.deepL:List DV→Bool
 |[]=>true
 |v::r=>v.deep&&DV.deepL r
end
def DV.cell:DV→Bool
 |.bool _|.int _ _|.str _|.ifc _=>true
 |.nil q=>(match q with|.own|.frz|.ownw _=>true|_=>false)
 |.sl q _ _=>(match q with|.own|.frz|.ownw _=>true|_=>false)
 |_=>false
def Ch:List DV→Bool
 |[]=>true
 |v::r=>v.cell&&Ch r
def DV.argc:DV→Bool
 |.bool _|.int _ _|.str _|.ifc _|.nil _|.sl _ _ _|.ptr _ _=>true
 |_=>false
def Ps:List DV→Bool
 |[]=>true
 |v::r=>v.argc&&Ps r
def DV.argok:DV→Bool
 |.agg cs=>Ps cs
 |v=>v.argc
def Fs:List DV→Bool
 |[]=>true
 |v::r=>v.argok&&Fs r
def DV.retc:DV→Bool
 |.ptr _ _=>true
 |v=>v.cell
def Gj:List DV→Bool
 |[]=>true
 |v::r=>v.retc&&Gj r
def DV.retok:DV→Bool
 |.agg cs=>Gj cs
 |v=>v.retc
def CT.flat:CT→Bool
 |.sl _=>false
 |_=>true
def RT.flat:RT→Bool
 |.one t=>t.flat
 |.cons t r=>t.flat&&r.flat
structure DC where
 d:Bool
 v:DV
structure DS where
 sl:List DC
 bx:List (List DC)
 hp:List (List DC)
def AR:List DC→Nat→DV
 |[],_=>.any
 |x::_,0=>x.v
 |_::r,n+1=>AR r n
def Cl:List DC→Nat→DV→List DC
 |[],_,_=>[]
 |_::r,0,v=>⟨true,v⟩::r
 |x::r,n+1,v=>x::Cl r n v
def A6:List (List DC)→Nat→List DC
 |[],_=>[]
 |x::_,0=>x
 |_::r,n+1=>A6 r n
def DQ:List (List DC)→Nat→List DC→List (List DC)
 |[],_,_=>[]
 |_::r,0,v=>v::r
 |x::r,n+1,v=>x::DQ r n v
def F3:List DC→Nat→List DV→List DC
 |cs,_,[]=>cs
 |[],_,_::_=>[]
 |_::r,0,v::vs=>⟨true,v⟩::F3 r 0 vs
 |c::r,n+1,v::vs=>c::F3 r n (v::vs)
def F5:List DV→Nat→List DV→List DV
 |cs,_,[]=>cs
 |[],_,_::_=>[]
 |_::r,0,v::vs=>v::F5 r 0 vs
 |c::r,n+1,v::vs=>c::F5 r n (v::vs)
def EF:List DV→Nat→DV
 |[],_=>.any
 |x::_,0=>x
 |_::r,n+1=>EF r n
def KL:List DV→Nat→DV→List DV
 |[],_,_=>[]
 |_::r,0,v=>v::r
 |x::r,n+1,v=>x::KL r n v
def Bf:List DV→Nat→Nat→List DV
 |_,0,0=>[]
 |[],_,_=>[]
 |c::r,0,n+1=>c::Bf r 0 n
 |_::r,o+1,n=>Bf r o n
def A0:List DC→List DV
 |[]=>[]
 |c::r=>c.v::A0 r
def news:List DV→List DC
 |[]=>[]
 |v::r=>⟨true,v⟩::news r
def Cm(hd:Hd):List DC→List DC
 |[]=>[]
 |c::r=>(if c.v.bor hd then ⟨true,.any⟩ else c)::Cm hd r
def DV.isBox(i:Nat):DV→Bool
 |.box j _=>i == j
 |_=>false
def Lh(i:Nat):List DC→List DC
 |[]=>[]
 |c::r=>(if c.v.isBox i then ⟨true,.any⟩ else c)::Lh i r
def Pr(live:List Nat):Nat→List DC→List DC
 |_,[]=>[]
 |n,c::r=>(if live.contains n then c else ⟨true,.any⟩)::Pr live (n+1) r
def clean:List DC→List DC
 |[]=>[]
 |c::r=>⟨false,c.v⟩::clean r
def Kr:List (List DC)→List (List DC)
 |[]=>[]
 |b::r=>clean b::Kr r
def DS.clean(st:DS):DS:=⟨Go.Ag.clean st.sl,Kr st.bx,Kr st.hp⟩
def SQ:List DC→List PV
 |[]=>[]
 |c::r=>c.v.enc::SQ r
def SS:List (List DC)→List (List PV)
 |[]=>[]
 |b::r=>SQ b::SS r
def DS.enc(st:DS):PS:=⟨SQ st.sl,SS st.bx,SS st.hp⟩
inductive PX where
 |tt|ff|p (h:Prop)|and (a b:PX)|ite (c:Bool) (a b:PX)
def PX.den:PX→Prop
 |.tt=>True
 |.ff=>False
 |.p h=>h
 |.and a b=>a.den∧b.den
 |.ite c a b=>(c=true→a.den)∧(c=false→b.den)
def PX.land:PX→PX→PX
 |.tt,b=>b
 |.ff,_=>.ff
 |a,.tt=>a
 |a,b=>.and a b
def PX.if' (c:Bool):PX→PX→PX
 |.tt,.tt=>.tt
 |a,b=>.ite c a b
def Gx:V→DV
 |.nils=>.nil .own
 |.tup []=>.tup []
 |.bool b=>.bool (.lit b)
 |.int k n=>.int k n
 |.str s=>.str s
 |.ifc b=>.ifc b
 |_=>.undef
def EH:List V→List DV
 |[]=>[]
 |v::r=>Gx v::EH r
def Opnd.dev(s:List DC):Opnd→DV
 |.t n=>AR s n
 |.c v=>Gx v
end
noncomputable section
mutual
def DV.ok:DV→Bool
 |.any=>false
 |.agg cs=>DV.okL cs
 |.tup vs=>DV.okL vs
 |_=>true
def DV.okL:List DV→Bool
 |[]=>true
 |v::r=>v.ok&&DV.okL r
end
def DS.put(st:DS)(d:Option Nat)(v:DV):DS:=
 match d with
 |none=>st
 |some d=>if v.own then { st with sl:=Cm (.s d) (Cl st.sl d v) } else { st with sl:=Cl st.sl d v }
def MI(v:DV)(n:Nat)(st:DS):DV×DS:=if v.own then (if v.bor (.s n) then (.any,st) else (v,{ st with sl:=Cm (.s n) (Cl st.sl n .any) })) else (v,st)
def AK(x:Opnd)(st:DS):DV×DS:=match x with
 |.c v=>(Gx v,st)
 |.t n=>MI (AR st.sl n) n st
def Px(v:DV)(n:Nat)(st:DS):DV×DS:=if v.own then (if v.retok then (v.fz,{ st with sl:=Cm (.s n) (Cl st.sl n v.fz) }) else (.any,st)) else (v,st)
def I3(x:Opnd)(st:DS):DV×DS:=match x with
 |.c v=>(Gx v,st)
 |.t n=>Px (AR st.sl n) n st
def DV.fcell:DV→List Nat→DV
 |.agg cs,[c]=>EF cs c
 |.agg _,_=>.any
 |.tup vs,[i,c]=>EF (EF vs i).cells c
 |.tup _,_=>.any
 |v,[0]=>v
 |_,_=>.any
def DV.setc:DV→List Nat→DV→DV
 |.agg cs,[c],w=>.agg (KL cs c w)
 |.agg cs,_,_=>.agg cs
 |.tup vs,_,_=>.tup vs
 |_,[0],w=>w
 |v,_,_=>v
def Bm(st:DS):Hd→List Nat→DV
 |.s t,p=>(AR st.sl t).fcell p
 |.b i,[c]=>AR (A6 st.bx i) c
 |.h i,[c]=>AR (A6 st.hp i) c
 |_,_=>.any
def Eu(st:DS)(v:DV):Hd→List Nat→DS
 |.s t,p=>{ st with sl:=Cm (.s t) (Cl st.sl t ((AR st.sl t).setc p v)) }
 |.b i,[c]=>{ st with sl:=Cm (.b i) st.sl,bx:=DQ st.bx i (Cl (A6 st.bx i) c v) }
 |.h i,[c]=>{ st with sl:=Cm (.h i) st.sl,hp:=DQ st.hp i (Cl (A6 st.hp i) c v) }
 |_,_=>st
def Ql.brw(hd:Hd)(p:List Nat):Ql→Ql
 |.own=>.bor hd p true
 |.ownw _=>.pre hd p
 |q=>q
def SG(hd:Hd)(p:List Nat):DV→DV
 |.sl q r l=>.sl (q.brw hd p) r l
 |.nil q=>.nil (q.brw hd p)
 |v=>v
def Gn(hd:Hd):Nat→List DV→List DV
 |_,[]=>[]
 |c,v::r=>SG hd [c] v::Gn hd (c+1) r
def SJ(hd:Hd):DV→DV
 |.agg cs=>.agg (Gn hd 0 cs)
 |.tup vs=>if DV.ownL vs then .undef else .tup vs
 |v=>SG hd [0] v
def G1(x:Opnd)(st:DS):DV×DS:=match x with
 |.c v=>(Gx v,st)
 |.t n=>(SJ (.s n) (AR st.sl n),st)
def KF:Ql→Option Ql
 |.frz=>some .frz
 |.bor hd _ _=>some (.bor hd [] false)
 |.pre hd _=>some (.bor hd [] false)
 |_=>none
def Ky:List DV→List DV
 |[]=>[]
 |v::r=>(if v.own then .any else v)::Ky r
def DM(n:Option Nat)(cs:List DV):Option DV:=
 match n,cs with
 |some _,cs=>some (.agg cs)
 |none,[v]=>some v
 |none,_=>none
def Fz(d:Nat):Option DV→Option (PX×Nat)
 |none=>some (.tt,d)
 |some (.int _ i)=>some (.p (0≤i),iNat i)
 |some _=>none
def Gh:List DV→List (Nat×Nat×Opnd)→DS→Option (List DV×DS)
 |cs,[],st=>some (cs,st)
 | cs,(off,size,x)::r,st=>
   if (AK x st).1.cells.length == size&&Nat.ble (off+size) cs.length&&Ch (AK x st).1.cells then Gh (F5 cs off (AK x st).1.cells) r (AK x st).2 else none
abbrev DO:=Option (PX×DV)
def Dz(v:DV):DO:=some (.tt,v)
def dI(k:IntKind)(n:Int):DO:=some (.tt,.int k n)
def dB(b:Bool):DO:=some (.tt,.bool (.dyn b))
def OC(op:BinOp)(k:IntKind)(a b:Int):DO:=
 match op with
 |.add=>dI k (iAdd k a b)
 |.sub=>dI k (iSub k a b)
 |.mul=>dI k (iMul k a b)
 |.quo=>some (.p (b≠0),.int k (iQuo k a b))
 |.rem=>some (.p (b≠0),.int k (iRem a b))
 |.and=>dI k (iAnd k a b)
 |.or=>dI k (iOr k a b)
 |.xor=>dI k (iXor k a b)
 |.andNot=>dI k (iAndNot k a b)
 |.eql=>dB (iEq a b)
 |.neq=>dB (iNe a b)
 |.lss=>dB (iLt a b)
 |.leq=>dB (iLe a b)
 |.gtr=>dB (iGt a b)
 |.geq=>dB (iGe a b)
 |_=>none
def O5(op:BinOp)(k:IntKind)(a b:Int):DO:=
 match op with
 |.shl=>some (.p (0≤b),.int k (iShl k a b))
 |.shr=>some (.p (0≤b),.int k (iShr k a b))
 |_=>none
def IntKind.same(k k':IntKind):Bool:=decide (k=k')
def KM(op:BinOp)(x y:DV):DO:=
 match x,y with
 | .int k a,.int k' b=>(match op with
   |.shl=>O5 .shl k a b
   |.shr=>O5 .shr k a b
   |op=>if IntKind.same k k' then OC op k a b else none)
 | .str a,.str b=>(match op with
   |.add=>some (.p (a.length+b.length≤9223372036854775807),.str (sAdd a b))
   |.eql=>dB (sEq a b)
   |.neq=>dB (sNe a b)
   |_=>none)
 |_,_=>none
def BX.not:BX→BX
 |.lit b=>.lit (!b)
 |.dyn b=>.dyn (bNot b)
def BX.eq:BX→BX→BX
 |.lit a,.lit b=>.lit (a == b)
 |.lit true,.dyn b=>.dyn b
 |.lit false,.dyn b=>.dyn (bNot b)
 |.dyn a,.lit true=>.dyn a
 |.dyn a,.lit false=>.dyn (bNot a)
 |.dyn a,.dyn b=>.dyn (bIff a b)
def Pu(neg:Bool):DV→DV→DO
 |.bool a,.bool b=>Dz (.bool (if neg then (a.eq b).not else a.eq b))
 |_,_=>none
def SV(neg:Bool):DV→DO
 |.ifc a=>dB (if neg then bNot a else a)
 |_=>none
def HF:List DV→List DV→Option BX
 |[],[]=>some (.lit true)
 |.int k a::x,.int k' b::y=>if IntKind.same k k' then (match x,y with
  |[],[]=>some (.dyn (iEq a b))
  |x,y=>(HF x y).map fun t=>.dyn (bAnd (iEq a b) t.b)) else none
 |_,_=>none
def Pz(n:Nat)(neg:Bool):DV→DV→DO
 | .agg a,.agg b=>if a.length == n&&b.length == n then (match HF a b with
   |some t=>Dz (.bool (if neg then t.not else t))
   |none=>none) else none
 |_,_=>none
def S0(op:UnOp)(x:DV):DO:=
 match op,x with
 |.not,.bool b=>Dz (.bool b.not)
 |.neg,.int k n=>dI k (iNeg k n)
 |_,_=>none
def SI(k:IntKind):DV→DO
 |.int _ n=>dI k (iConv k n)
 |_=>none
def Pf:(r:RT)→List r.D→Option (List UInt8)
 |.one (.int .u8),l=>some (rowS l)
 |_,_=>none
def Sv:DV→DO
 |.nil _=>Dz (.str [])
 |.sl _ r l=>(Pf r l).map fun s=>(.tt,.str s)
 |_=>none
def Xu(x:Opnd)(z:Bool)(q:Ql):Option Ql:=Du x (if z then 0 else 1) q
def Sm(w:Nat)(x:Opnd)(lo hi:Option DV):DV→DO
 | .sl q r l=>(match Fz 0 lo,Fz (lN l) hi with
   | some (g,a),some (g',b)=>if r.w == w then (match Xu x lo.isNone q with
     |some q'=>some ((g.land g').land (.p (a≤b∧b≤l.length∧0<l.length)),.sl q' r (lSub l a b))
     |none=>none) else none
   |_,_=>none)
 |_=>none
def Rs(lo hi:Option DV):DV→DO
 | .str t=>(match Fz 0 lo,Fz (lN t) hi with
   |some (g,a),some (g',b)=>some ((g.land g').land (.p (a≤b∧b≤t.length)),.str (lSub t a b))
   |_,_=>none)
 |_=>none
def RQ:DV→DO
 |.box i o=>Dz (.box i o)
 |.ptr i o=>Dz (.ptr i o)
 |.ep q r l j o=>Dz (.ep q r l j o)
 |_=>none
def Rv(off:Nat):DV→DO
 |.box i o=>Dz (.box i (o+off))
 |.ptr i o=>Dz (.ptr i (o+off))
 |.ep q r l j o=>Dz (.ep q r l j (o+off))
 |_=>none
def Sc(off:Nat)(n:Option Nat)(x:Opnd):DV→DO
 | .agg cs=>(match x with
   |.t t=>if Nat.ble (off+n.getD 1) cs.length&&DV.okL (Bf cs off (n.getD 1)) then (DM n (Gn (.s t) off (Bf cs off (n.getD 1)))).map fun v=>(.tt,v) else none
   |.c _=>none)
 |_=>none
def Lx(w:Nat)(x:Opnd):DV→DV→DO
 | .sl q r l,.int _ j=>if r.w == w then (match Dt x q with
   |some q'=>some (.p (0≤j∧j<l.length),.ep q' r l (iNat j) 0)
   |none=>none) else none
 |.nil _,.int _ _=>none
 |_,_=>none
def OM:DV→DV→DO
 |.str t,.int _ j=>some (.p (0≤j∧j<t.length),.int .u8 (sGet t j))
 |_,_=>none
def SW:DV→DO
 |.sl _ _ l=>dI .i64 (lLen l)
 |.nil _=>dI .i64 0
 |_=>none
def Sz:DV→DO
 |.str t=>dI .i64 (lLen t)
 |_=>none
def SY:DV→DV→DO
 |.int .i64 a,.int .i64 b=>dI .i64 (iMin a b)
 |_,_=>none
def SP:DV→DV→DO
 |.int .i64 a,.int .i64 b=>dI .i64 (iMax a b)
 |_,_=>none
abbrev C3:=Option (PX×DV×DS)
def I6(m:Bool)(i:Nat)(n:Option Nat)(a:DV)(st:DS):C3:=
 match a with
 | .box j o=>
   let cs:=Bf (A0 (A6 st.bx i)) o (n.getD 1)
   if i == j&&Nat.ble (o+n.getD 1) (A6 st.bx i).length&&DV.okL cs then
    if m then (DM n cs).map fun v=>(.tt,v,{ st with sl:=Cm (.b i) st.sl,bx:=DQ st.bx i (F3 (A6 st.bx i) o (Ky cs)) })
    else (DM n (Gn (.b i) o cs)).map fun v=>(.tt,v,st)
   else none
 |_=>none
def HR(m:Bool)(n:Option Nat)(a:DV)(st:DS):C3:=
 match a with
 | .ptr i o=>
   let cs:=Bf (A0 (A6 st.hp i)) o (n.getD 1)
   if Nat.blt i st.hp.length&&Nat.ble (o+n.getD 1) (A6 st.hp i).length&&DV.okL cs then
    if m then (DM n cs).map fun v=>(.tt,v,{ st with sl:=Cm (.h i) st.sl,hp:=DQ st.hp i (F3 (A6 st.hp i) o (Ky cs)) })
    else (DM n (Gn (.h i) o cs)).map fun v=>(.tt,v,st)
   else none
 | .ep q r l j o=>(match KF q with
   |some q'=>if Nat.ble (o+n.getD 1) r.w then (DM n (Bf (r.dv q' (lGet l j r.dflt)) o (n.getD 1))).map fun v=>(.p (j<l.length),v,st) else none
   |none=>none)
 |_=>none
def LN(i n:Nat)(a x:Opnd)(st0:DS):C3:=
 match AK x st0 with
 | (v, st)=>match a.dev st0.sl with
   |.box j o=>if i == j&&Nat.blt i st.bx.length&&v.cells.length == n&&Nat.ble (o+n) (A6 st.bx i).length&&Ch v.cells then
    some (.tt,.undef,{ st with sl:=if (!DV.okL (Bf (A0 (A6 st.bx i)) o n))||DV.ownL (Bf (A0 (A6 st.bx i)) o n)||v.own then Cm (.b i) st.sl else st.sl,bx:=DQ st.bx i (F3 (A6 st.bx i) o v.cells) }) else none
   |_=>none
def Ly(n:Nat)(a x:Opnd)(st0:DS):C3:=
 match AK x st0 with
 | (v, st)=>match a.dev st.sl with
   |.ptr i o=>if Nat.blt i st.hp.length&&v.cells.length == n&&Nat.ble (o+n) (A6 st.hp i).length&&Ch v.cells then
    some (.tt,.undef,{ st with sl:=if (!DV.okL (Bf (A0 (A6 st.hp i)) o n))||DV.ownL (Bf (A0 (A6 st.hp i)) o n)||v.own then Cm (.h i) st.sl else st.sl,hp:=DQ st.hp i (F3 (A6 st.hp i) o v.cells) }) else none
   | .ep (.bor hd [p] true) _ _ j o=>(match Bm st hd [p] with
     | .sl .own r l=>if v.cells.length == n&&Nat.ble (o+n) r.w&&Ch v.cells then (match r.of (F5 (r.dv .own (lGet l j r.dflt)) o v.cells) with
       |some y=>some (.p (j<l.length),.undef,Eu st (.sl .own r (lSet l j y)) hd [p])
       |none=>none) else none
     |_=>none)
   |_=>none
def F6(m:Bool)(n:Option Nat)(a:DV)(st:DS):Option C3:=
 match m,n,a with
 | true,none,.ep (.bor hd [c] true) (.one (.sl _)) l j 0=>some (match Bm st hd [c] with
   |.sl .own (.one (.sl r)) l2=>some (.p (j<l.length∧j<l2.length),.sl (.bor hd [c,j] true) r (lGet (α:=List r.D) l2 j []),st)
   |_=>none)
 |_,_,_=>none
def DV.nestX(i c:Nat):DV→Bool
 |.ep (.bor (.b i') [c'] true) _ _ _ _=>i == i'&&c == c'
 |_=>false
def DV.nest:DV→Option (Hd×Nat×Nat×Nat×Nat)
 |.ep (.bor hd [p,k] true) _ _ j o=>some (hd,p,k,j,o)
 |_=>none
def DV.nflat:DV→Bool
 |.bool _|.int _ _|.str _|.ifc _=>true
 |_=>false
def I2:List DV→Bool
 |[]=>true
 |v::r=>v.nflat&&I2 r
def LD(n:Nat)(hd:Hd)(p k j o:Nat)(v:DV)(st:DS):C3:=
 match Bm st hd [p] with
 | .sl .own (.one (.sl r)) l=>if v.cells.length == n&&Nat.ble (o+n) r.w&&I2 v.cells then (match r.of (F5 (r.dv .own (lGet (lGet (α:=List r.D) l k []) j r.dflt)) o v.cells) with
   |some y=>some (.p (k<l.length∧j<(lGet (α:=List r.D) l k []).length),.undef,Eu st (.sl .own (.one (.sl r)) (lSet (α:=List r.D) l k (lSet (lGet (α:=List r.D) l k []) j y))) hd [p])
   |none=>none) else none
 |_=>none
inductive DSrc where
 |nil
 |sl (r:RT) (l:List r.D)
def DSrc.w:DSrc→Nat→Bool
 |.nil,_=>true
 |.sl r _,w=>r.w == w
def DSrc.to(r:RT):DSrc→Option (List r.D)
 |.nil=>some []
 |.sl _ l=>I7 l
def Gq(w:Nat)(y:Opnd)(st:DS):Option (DSrc×DS):=
 match y.dev st.sl with
 |.str s=>if w == 1 then some (.sl (.one (.int .u8)) (sRow s),st) else none
 |.sl .own r l=>if r.w == w then some (.sl r l,(AK y st).2) else none
 |.sl (.ownw _) _ _=>none
 |.sl _ r l=>if r.w == w&&r.flat then some (.sl r l,st) else none
 |.nil .own=>some (.nil,(AK y st).2)
 |.nil _=>some (.nil,st)
 |_=>none
def KH(w:Nat)(x:Opnd)(new:DSrc)(st:DS):C3:=
 if !(Nat.blt 0 w&&new.w w) then none else
 match x.dev st.sl with
 | .nil .own=>(match new with
   |.nil=>some (.tt,.nil .own,(AK x st).2)
   |.sl r l=>some (.p (Bo (l.length*w)),.sl .own r l,(AK x st).2))
 | .sl .own r l=>if r.w == w then (match new.to r with
   |some n=>some (.p (Bo ((l.length+n.length)*w)),.sl .own r (lApp l n),(AK x st).2)
   |none=>none) else none
 | .sl (.bor hd [c] true) r l=>(match Bm st hd [c] with
   | .sl .own rh lh=>if rh.w == w then (match new.to rh with
     |some n=>some (.p (l.length=lh.length∧Bo ((lh.length+n.length)*w)),.sl .own rh (lApp lh n),Eu st .undef hd [c])
     |none=>none) else none
   |_=>none)
 | .nil (.bor hd [c] true)=>(match Bm st hd [c] with
   | .nil .own=>(match new with
     |.nil=>some (.tt,.nil .own,Eu st .undef hd [c])
     |.sl r l=>some (.p (Bo (l.length*w)),.sl .own r l,Eu st .undef hd [c]))
   |_=>none)
 | .sl (.pre hd [c]) r l=>(match Bm st hd [c] with
   | .sl .own rh lh=>if rh.w == w then (match new.to rh with
     |some n=>some (.p (0<lh.length∧l.length≤lh.length∧0<l.length+n.length∧Bo ((l.length+n.length)*w)),.sl .own rh (lApp (lTake lh (lN l)) n),Eu st .undef hd [c])
     |none=>none) else none
   |_=>none)
 |_=>none
def Ia(w:Nat)(new:DSrc)(st:DS):C3:=
 match new with
 |.nil=>some (.tt,.nil (.ownw w),st)
 |.sl r l=>some (.p (Bo (l.length*w)),.sl (.ownw w) r l,st)
def Me(w:Nat)(x:Opnd)(new:DSrc)(st:DS):C3:=
 if !(Nat.blt 0 w&&new.w w) then none else
 match x.dev st.sl with
 |.nil .own=>Ia w new (AK x st).2
 |.nil (.ownw w')=>if w' == w then Ia w new (AK x st).2 else none
 | .sl .own r l=>if r.w == w then (match new.to r with
   |some n=>some (.p (Bo ((l.length+n.length)*w)),.sl (.ownw w) r (lApp l n),(AK x st).2)
   |none=>none) else none
 | .sl (.ownw w') r l=>if w' == w&&r.w == w then (match new.to r with
   |some n=>some (.p (Bo ((l.length+n.length)*w)),.sl (.ownw w) r (lApp l n),(AK x st).2)
   |none=>none) else none
 | .sl (.pre hd [c]) r l=>(match Bm st hd [c] with
   | .sl .own rh lh=>if rh.w == w then (match new.to rh with
     |some n=>some (.p (0<lh.length∧l.length≤lh.length∧Bo ((l.length+n.length)*w)),.sl (.ownw w) rh (lApp (lTake lh (lN l)) n),Eu st .undef hd [c])
     |none=>none) else none
   | .sl (.ownw w') rh lh=>if w' == w&&rh.w == w then (match new.to rh with
     |some n=>some (.p (0<lh.length∧l.length≤lh.length∧Bo ((l.length+n.length)*w)),.sl (.ownw w) rh (lApp (lTake lh (lN l)) n),Eu st .undef hd [c])
     |none=>none) else none
   |_=>none)
 |_=>none
def MA(w:Nat):DV→Option DV
 |.nil .own=>some (.nil (.ownw w))
 |.nil (.ownw w')=>if w' == w then some (.nil (.ownw w)) else none
 |.sl .own r l=>if r.w == w then some (.sl (.ownw w) r l) else none
 |.sl (.ownw w') r l=>if w' == w then some (.sl (.ownw w) r l) else none
 |_=>none
def Pv:List (Nat×Nat)→List DV→Option (List DV)
 |[],l=>some l
 | (c,w)::r,l=>match MA w (EF l c) with
   |some v=>Pv r (KL l c v)
   |none=>none
def Jk(ws:List (Nat×Nat)):DV→Option DV
 |.agg l=>(Pv ws l).map .agg
 | .nil q=>(match ws with
   |[(0,w)]=>MA w (.nil q)
   |_=>none)
 | .sl q r l=>(match ws with
   |[(0,w)]=>MA w (.sl q r l)
   |_=>none)
 |_=>none
def J6(r:RT)(w:Nat):Nat→List DV→Option (List r.D)
 |0,_=>some []
 | n+1,cs=>(match r.of (cs.take w),J6 r w n (cs.drop w) with
   |some x,some l=>some (x::l)
   |_,_=>none)
def E1:List V→Bool
 |[]=>true
 |v::r=>v.flat&&E1 r
def Kw(o:AOp)(e:Opnd→DV):DO:=
 match o with
 |.nilck x=>RQ (e x)
 |.bin op x y=>KM op (e x) (e y)
 |.eqB neg x y=>Pu neg (e x) (e y)
 |.eqN neg x y=>(match y with|.c (.ifc true)=>SV neg (e x)|_=>none)
 |.eqA n neg x y=>Pz n neg (e x) (e y)
 |.un op x=>S0 op (e x)
 |.conv k x=>SI k (e x)
 |.bstr x=>Sv (e x)
 |.slice w x lo hi=>Sm w x (lo.map e) (hi.map e) (e x)
 |.substr x lo hi=>Rs (lo.map e) (hi.map e) (e x)
 |.fieldA off a=>Rv off (e a)
 |.field off n x=>Sc off n x (e x)
 |.indexA w x i=>Lx w x (e x) (e i)
 |.index x i=>OM (e x) (e i)
 |.len x=>SW (e x)
 |.lenT x=>Sz (e x)
 |.minI x y=>SY (e x) (e y)
 |.maxI x y=>SP (e x) (e y)
 |_=>none
def AY (m:Bool)(o:AOp)(ty:Option RT)(st:DS):C3:=
 let e (x:Opnd):=x.dev st.sl
 let known (r:DV×DS):C3:=if r.1.ok then some (.tt,r.1,r.2) else none
 match o with
 |.mv x=>known (if m then G1 x st else AK x st)
 |.allocB i zs=>if Nat.blt i st.bx.length&&E1 zs then some (.tt,.box i 0,{ st with sl:=Cm (.b i) (Lh i st.sl),bx:=DQ st.bx i (news (EH zs)) }) else none
 | .boxB i n x=>(match AK x st with
   |(v,st)=>if Nat.blt i st.bx.length&&v.cells.length == n&&Ch v.cells then some (.tt,.box i 0,{ st with sl:=Cm (.b i) (Lh i st.sl),bx:=DQ st.bx i (news v.cells) }) else none)
 |.allocH zs=>if E1 zs then some (.tt,.ptr st.hp.length 0,{ st with sl:=Cm (.h st.hp.length) st.sl,hp:=st.hp++[news (EH zs)] }) else none
 | .boxH n x=>(match AK x st with
   |(v,st)=>if v.cells.length == n&&Ch v.cells then some (.tt,.ptr st.hp.length 0,{ st with sl:=Cm (.h st.hp.length) st.sl,hp:=st.hp++[news v.cells] }) else none)
 | .build zs ps=>if E1 zs then (match Gh (EH zs) ps st with
   |some (cs,st)=>some (.tt,.agg cs,st)
   |none=>none) else none
 | .mkSlice w z len=>(match e len with
   | .int .i64 n=>(match (match ty with|some r=>some r|none=>S4 (EH z)) with
     | some r=>(match r.of (EH z) with
       |some d=>if z.length == w&&r.w == w&&Nat.blt 0 w&&E1 z then some (.p (0≤n∧Bo (n.toNat*w)),.sl .own r (lRep n d),st) else none
       |none=>none)
     |none=>none)
   |_=>none)
 | .litSlice w n zs ps=>
   if n == 0 then some (.tt,(match ty with|some r=>.sl .own r []|none=>.nil .own),st)
   else if E1 zs&&zs.length == n*w&&Nat.blt 0 w then (match Gh (EH zs) ps st with
    | some (cs,st)=>(match (match ty with|some r=>some r|none=>S4 (cs.take w)) with
      | some r=>if r.w == w then (match J6 r w n cs with
        |some l=>some (.tt,.sl .own r l,st)
        |none=>none) else none
      |none=>none)
    |none=>none)
   else none
 |.loadB i n a=>I6 m i n (e a) st
 | .loadH n a=>(match F6 m n (e a) st with
   |some r=>r
   |none=>HR m n (e a) st)
 | .loadX i c n a=>if (e a).nestX i c then (match F6 m n (e a) st with
   |some r=>r
   |none=>none) else none
 |.storeB i n a x=>LN i n a x st
 | .storeH n a x=>if (e a).ok then (match (e a).nest with
   |some (hd,p,k,j,o)=>LD n hd p k j o (e x) st
   |none=>Ly n a x st) else none
 | .app w x y=>(match Gq w y st with
   |some (new,st)=>KH w x new st
   |none=>none)
 | .appN w x y=>(match x.dev st.sl with
   | .nil .own=>(match Gq w y st with
     |some (new,st)=>KH w x new st
     |none=>none)
   |_=>none)
 | .extract x i=>(match x with
   | .t t=>(match AR st.sl t with
     |.tup vs=>if Nat.blt i vs.length&&(EF vs i).ok then (if (EF vs i).own then (if (EF vs i).bor (.s t) then none else some (.tt,EF vs i,{ st with sl:=Cm (.s t) (Cl st.sl t (.tup (KL vs i .undef))) })) else some (.tt,EF vs i,st)) else none
     |_=>none)
   |.c _=>none)
 |.pick ..=>none
 |.callB ..=>none
 |o=>(Kw o e).map fun r=>(r.1,r.2,st)
def I0(ws:List (Nat×Nat))(m:Bool)(o:AOp)(ty:Option RT)(st:DS):C3:=
 match o with
 | .app w x y=>(match ws with
   | [(0,w')]=>if w' == w then (match Gq w y st with
     |some (new,st)=>Me w x new st
     |none=>none) else none
   |_=>none)
 | o => (match AY m o ty st with
   | some (g,v,st)=>(match Jk ws v with
     |some v=>some (g,v,st)
     |none=>none)
   |none=>none)
end
noncomputable section
def Pw(c:Bool):BX→BX→BX
 |.lit true,.lit true=>.lit true
 |.lit false,.lit false=>.lit false
 |.lit true,.lit false=>.dyn c
 |.lit false,.lit true=>.dyn (bNot c)
 |.lit true,.dyn y=>.dyn (bOr c y)
 |.lit false,.dyn y=>.dyn (bAnd (bNot c) y)
 |.dyn x,.lit true=>.dyn (bOr (bNot c) x)
 |.dyn x,.lit false=>.dyn (bAnd c x)
 |.dyn x,.dyn y=>.dyn (bSel c x y)
def Df(q q':Ql):Bool:=decide (q=q')
mutual
def Ca(c:Bool):DV→DV→DV
 |.undef,.undef=>.undef
 |.bool x,.bool y=>.bool (Pw c x y)
 |.int k x,.int k' y=>if IntKind.same k k' then .int k (bSel c x y) else .any
 |.str x,.str y=>.str (bSel c x y)
 |.ifc x,.ifc y=>.ifc (bSel c x y)
 |.nil q,.nil q'=>if Df q q' then .nil q else .any
 |.nil q,.sl q' r l=>if Df q q' then .sl q r (bSel c [] l) else .any
 |.sl q r l,.nil q'=>if Df q q' then .sl q r (bSel c l []) else .any
 | .sl q r l,.sl q' r' l'=>if Df q q' then (match I7 (r':=r') (r:=r) l' with
   |some l'=>.sl q r (bSel c l l')
   |none=>.any) else .any
 |.box i o,.box i' o'=>if i == i'&&o == o' then .box i o else .any
 |.ptr i o,.ptr i' o'=>if i == i'&&o == o' then .ptr i o else .any
 |.agg x,.agg y=>if x.length == y.length&&DV.okL (Hf c x y) then .agg (Hf c x y) else .any
 |.tup x,.tup y=>if x.length == y.length&&DV.okL (Hf c x y) then .tup (Hf c x y) else .any
 |_,_=>.any
def Hf(c:Bool):List DV→List DV→List DV
 |x::a,y::b=>Ca c x y::Hf c a b
 |_,_=>[]
end
def Py(c:Bool)(x y:DC):DC:=if x.d||y.d then ⟨true,Ca c x.v y.v⟩ else x
def Mf(c:Bool):List DC→List DC→List DC
 |x::a,y::b=>Py c x y::Mf c a b
 |_,_=>[]
def Ms(c:Bool):List (List DC)→List (List DC)→List (List DC)
 |x::a,y::b=>(if x.length == y.length then Mf c x y else [])::Ms c a b
 |_,_=>[]
def Jf(c:Bool)(x y:DS):Option DS:=
 if x.sl.length == y.sl.length&&x.bx.length == y.bx.length&&x.hp.length == y.hp.length then some ⟨Mf c x.sl y.sl,Ms c x.bx y.bx,Ms c x.hp y.hp⟩ else none
def KI:List DC→List DC→List DC
 |x::a,y::b=>⟨x.d||y.d,y.v⟩::KI a b
 |_,r=>r
def ML:List (List DC)→List (List DC)→List (List DC)
 |x::a,y::b=>KI x y::ML a b
 |_,r=>r
def Ic(x y:DS):DS:=⟨KI x.sl y.sl,ML x.bx y.bx,ML x.hp y.hp⟩
inductive DT where
 |leaf (e:AExit) (st:DS)
 |node (c:Bool) (a b:DT)
 |chk (g:PX) (t:DT)
 |bad
inductive NS where
 |none|some (st:DS)|fail
def DT.norm:DT→NS
 |.leaf .normal st=>.some st
 |.leaf _ _=>.none
 | .node c a b=>(match a.norm,b.norm with
   |.none,y=>y
   |x,.none=>x
   | .some x,.some y=>(match Jf c x y with
     |some z=>.some z
     |none=>.fail)
   |_,_=>.fail)
 |.chk _ t=>t.norm
 |.bad=>.none
def DT.nn:DT→Nat
 |.leaf .normal _=>1
 |.node _ a b=>a.nn+b.nn
 |.chk _ t=>t.nn
 |_=>0
def DT.cont:DT→Option BX
 |.leaf .normal _=>some (.lit true)
 |.leaf _ _=>some (.lit false)
 | .node c a b=>(match a.cont,b.cont with
   |none,y=>y
   |x,none=>x
   |some x,some y=>some (Pw c x y))
 |.chk _ t=>t.cont
 |.bad=>none
def DT.ok:DT→PX
 |.leaf _ _=>.tt
 |.node c a b=>PX.if' c a.ok b.ok
 |.chk g t=>g.land t.ok
 |.bad=>.ff
def DT.nodeB(c:Bool):DT→DT→DT
 |.bad,b=>b
 |a,.bad=>a
 |a,b=>.node c a b
def DT.drop:DT→DT
 |.leaf .normal _=>.bad
 |.leaf e st=>.leaf e st
 |.node c a b=>DT.nodeB c a.drop b.drop
 |.chk _ t=>t.drop
 |.bad=>.bad
def DT.map(f:DS→DS):DT→DT
 |.leaf e st=>.leaf e (f st)
 |.node c a b=>.node c (a.map f) (b.map f)
 |.chk g t=>.chk g (t.map f)
 |.bad=>.bad
def DT.bind(f:DS→DT)(h:DS→DS):DT→DT
 |.leaf .normal st=>f st
 |.leaf e st=>.leaf e (h st)
 |.node c a b=>.node c (a.bind f h) (b.bind f h)
 |.chk g t=>.chk g (t.bind f h)
 |.bad=>.bad
def DT.unexit(i:Nat):DT→DT
 |.leaf (.exit j) st=>if j == i then .leaf .normal st else .leaf (.exit j) st
 |.leaf e st=>.leaf e st
 |.node c a b=>.node c (a.unexit i) (b.unexit i)
 |.chk g t=>.chk g (t.unexit i)
 |.bad=>.bad
def DT.chk':PX→DT→DT
 |.tt,t=>t
 |g,t=>.chk g t
def DT.then(f:DS→DT)(h:DS→DS)(t:DT):DT:=
 if Nat.ble t.nn 1 then t.bind f h
 else match t.norm with
  | .some m=>DT.chk' t.ok (match t.cont with
    |some (.dyn c)=>.node c (f m) (t.drop.map h)
    |some (.lit true)=>f m
    |_=>.bad)
  |_=>t.bind f h
section
variable {X:Type}
inductive LoopTo (c:X→Bool) (f:X→X) (p:X→Prop):X→X→Prop
 |stop {x:X}:p x→c x=false→LoopTo c f p x x
 |go {x y:X}:p x→c x=true→LoopTo c f p (f x) y→LoopTo c f p x y
def LoopOk(c:X→Bool)(f:X→X)(p:X→Prop)(x:X):Prop:=∃ y,LoopTo c f p x y
open Classical in
def AF(c:X→Bool)(f:X→X)(x:X):X:=if h:∃ y,LoopTo c f (fun _=>True) x y then Classical.choose h else x
theorem LoopTo.fst{c:X→Bool}{f:X→X}{p q:X→Prop}{x y z:X}(h:LoopTo c f p x y)(h':LoopTo c f q x z):y=z:=by
 induction h with
 | stop _ h1=>
   cases h' with
   |stop=>rfl
   |go _ h2=>rw[h1] at h2;cases h2
 | go _ h1 _ ih=>
   cases h' with
   |stop _ h2=>rw[h1] at h2;cases h2
   |go _ _ h3=>exact ih h3
theorem LoopTo.mono{c:X→Bool}{f:X→X}{p q:X→Prop}(hp:∀ x,p x→q x){x y:X}(h:LoopTo c f p x y):LoopTo c f q x y:=by
 induction h with
 |stop h0 h1=>exact .stop (hp _ h0) h1
 |go h0 h1 _ ih=>exact .go (hp _ h0) h1 ih
theorem LoopTo.val{c:X→Bool}{f:X→X}{p:X→Prop}{x y:X}(h:LoopTo c f p x y):AF c f x=y:=by
 have h':∃ y,LoopTo c f (fun _=>True) x y:=⟨y,h.mono fun _ _=>trivial⟩;unfold AF;rw[dif_pos h'];exact(Classical.choose_spec h').fst h
theorem LoopOk.to{c:X→Bool}{f:X→X}{p:X→Prop}{x:X}(h:LoopOk c f p x):LoopTo c f p x (AF c f x):=by
 obtain⟨y,h⟩:=h;rw[h.val];exact h
end
inductive Pl where
 |s (i:Nat)|b (i c:Nat)|h (i c:Nat)
inductive HT where
 |one (q:Ql) (t:CT)|agg (l:List (Ql×CT))
structure Hole where
 pl:Pl
 t:HT
def AgX:List (Ql×CT)→Type
 |[]=>Unit
 |[a]=>a.2.D
 |a::r=>a.2.D×AgX r
def HT.D:HT→Type
 |.one _ t=>t.D
 |.agg l=>AgX l
def Fb:List Hole→Type
 |[]=>Unit
 |[a]=>a.t.D
 |a::r=>a.t.D×Fb r
def DS.at(st:DS):Pl→DV
 |.s i=>AR st.sl i
 |.b i c=>AR (A6 st.bx i) c
 |.h i c=>AR (A6 st.hp i) c
def DS.wr(st:DS)(v:DV):Pl→DS
 |.s i=>{ st with sl:=Cl st.sl i v }
 |.b i c=>{ st with bx:=DQ st.bx i (Cl (A6 st.bx i) c v) }
 |.h i c=>{ st with hp:=DQ st.hp i (Cl (A6 st.hp i) c v) }
def CT.ofQ(q:Ql):(t:CT)→DV→Option t.D
 |.int k,.int k' n=>if IntKind.same k k' then some n else none
 |.bool,.bool b=>some b.b
 |.str,.str s=>some s
 |.ifc,.ifc b=>some b
 |.sl r,.nil q'=>if Df q q' then some ([]:List r.D) else none
 |.sl r,.sl q' r' l=>if Df q q' then I7 (r':=r') (r:=r) l else none
 |_,_=>none
def Dv:(l:List (Ql×CT))→List DV→Option (AgX l)
 |[],[]=>some ()
 |[a],[v]=>a.2.ofQ a.1 v
 | a::b::r,v::vs=>(match a.2.ofQ a.1 v,Dv (b::r) vs with
   |some x,some y=>some (x,y)
   |_,_=>none)
 |_,_=>none
def B0:(l:List (Ql×CT))→AgX l→List DV
 |[],_=>[]
 |[a],x=>[a.2.dv a.1 x]
 |a::b::r,x=>a.2.dv a.1 x.1::B0 (b::r) x.2
def HT.of:(h:HT)→DV→Option h.D
 |.one q t,v=>t.ofQ q v
 |.agg l,.agg vs=>Dv l vs
 |.agg _,_=>none
def HT.dv:(h:HT)→h.D→DV
 |.one q t,x=>t.dv q x
 |.agg l,x=>.agg (B0 l x)
def Ik(st:DS):(H:List Hole)→Option (Fb H)
 |[]=>some ()
 |[a]=>a.t.of (st.at a.pl)
 | a::b::r=>(match a.t.of (st.at a.pl),Ik st (b::r) with
   |some x,some y=>some (x,y)
   |_,_=>none)
def wrX(st:DS):(H:List Hole)→Fb H→DS
 |[],_=>st
 |[a],x=>st.wr (a.t.dv x) a.pl
 |a::b::r,x=>wrX (st.wr (a.t.dv x.1) a.pl) (b::r) x.2
def DV.same:DV→DV→Bool
 |.undef,.undef=>true
 |.nil q,.nil q'=>Df q q'
 |.box i o,.box i' o'=>i == i'&&o == o'
 |.ptr i o,.ptr i' o'=>i == i'&&o == o'
 |_,_=>false
def DV.isAny:DV→Bool
 |.any=>true
 |_=>false
inductive Cls where
 |left|hole (t:HT)|kill
def Xr:DV→DV→Option (Ql×CT)
 |.int k _,.int k' _=>if IntKind.same k k' then some (.own,.int k) else none
 |.bool _,.bool _=>some (.own,.bool)
 |.str _,.str _=>some (.own,.str)
 |.ifc _,.ifc _=>some (.own,.ifc)
 |.nil q,.sl q' r _=>if Df q q' then some (q,.sl r) else none
 |.sl q r _,.nil q'=>if Df q q' then some (q,.sl r) else none
 |.sl q r _,.sl q' r' _=>if Df q q'&&RT.beq r' r then some (q,.sl r) else none
 |_,_=>none
def Xt:List DV→List DV→Option (List (Ql×CT))
 |[],[]=>some []
 | x::a,y::b=>(match Xr x y,Xt a b with
   |some t,some l=>some (t::l)
   |_,_=>none)
 |_,_=>none
def Xw(x:DV)(y:DC):Cls:=
 if y.d then (if x.isAny||x.same y.v then .left else match x,y.v with
  | .agg a,.agg b=>(match Xt a b with
    |some l=>.hole (.agg l)
    |none=>.kill)
  | x,y=>(match Xr x y with
    |some t=>.hole (.one t.1 t.2)
    |none=>.kill)) else .left
def Hi(pl:Nat→Pl):Nat→List DC→List DC→List Hole×List DC
 | n,x::a,y::b=>(match Xw x.v y,Hi pl (n+1) a b with
   |.left,(H,l)=>(H,x::l)
   |.hole t,(H,l)=>(⟨pl n,t⟩::H,⟨true,.any⟩::l)
   |.kill,(H,l)=>(H,⟨true,.any⟩::l))
 |_,a,_=>([],a)
def Je(pl:Nat→Nat→Pl):Nat→List (List DC)→List (List DC)→List Hole×List (List DC)
 | n,x::a,y::b=>(match Je pl (n+1) a b with
   |(H,l)=>if x.length == y.length then (match Hi (pl n) 0 x y with|(H',x')=>(H'++H,x'::l)) else (H,[]::l))
 |_,a,_=>([],a)
def MJ(x y:DS):List Hole×DS:=
 match Hi .s 0 x.sl y.sl,Je .b 0 x.bx y.bx,Je .h 0 x.hp y.hp with
 |(H1,s),(H2,b),(H3,h)=>(H1++H2++H3,⟨s,b,h⟩)
def MD:List DC→List DC→Bool
 |k::a,y::b=>(k.v.isAny||!y.d||k.v.same y.v)&&MD a b
 |[],[]=>true
 |_,_=>false
def MN:List (List DC)→List (List DC)→Bool
 |k::a,y::b=>(k.length == 0||MD k y)&&MN a b
 |[],[]=>true
 |_,_=>false
def SU(K y:DS):Bool:=MD K.sl y.sl&&MN K.bx y.bx&&MN K.hp y.hp
def JZ(K:DS):List Hole→Bool
 |[]=>true
 |a::r=>(K.at a.pl).isAny&&JZ K r
def DV.top:DV→Bool
 |.sl (.bor _ _ t) _ _=>t
 |.sl (.pre _ _) _ _=>true
 |.nil (.bor _ _ t)=>t
 |.nil (.pre _ _)=>true
 |.ep (.bor _ _ t) _ _ _ _=>t
 |.ep (.pre _ _) _ _ _ _=>true
 |.agg _=>true
 |.tup _=>true
 |_=>false
mutual
def DV.hasTop:DV→Bool
 |.agg cs=>DV.hasTopL cs
 |.tup cs=>DV.hasTopL cs
 |v=>v.top
def DV.hasTopL:List DV→Bool
 |[]=>false
 |v::r=>v.hasTop||DV.hasTopL r
end
def O9 (live:List Nat):Nat→List DC→List DC
 |_,[]=>[]
 |n,c::r=>(if live.contains n then (if c.v.hasTop then ⟨true,c.v.detop⟩ else c) else ⟨true,.any⟩)::O9 live (n+1) r
def CN(live:List Nat)(st:DS):DS:={ st with sl:=O9 live 0 st.sl }
def Ph(live:List Nat)(st:DS):DS:={ st with sl:=Pr live 0 st.sl }
def Mh(live:List Nat)(body:DS→DT)(A:DS):Nat→DS→Option (List Hole×DS)
 | 0,cur=>(match (body cur).norm with
   |.some m=>some (MJ A (CN live m))
   |_=>none)
 | n + 1,cur=>(match (body cur).norm with
   | .some m=>(match MJ A (CN live m) with
     | (H,K)=>(match Ik A H with
       |some x0=>Mh live body A n (wrX K H x0)
       |none=>none))
   |_=>none)
def NS.isNone:NS→Bool
 |.none=>true
 |_=>false
section
variable (live:List Nat) (body:DS→DT) (K:DS) (H:List Hole)
def lT(x:Fb H):DT:=body (wrX K H x)
def KD(x:Fb H):Bool:=match (lT body K H x).cont with|some b=>b.b|none=>false
def Kx(x:Fb H):Fb H:=match (lT body K H x).norm with
 |.some m=>(match Ik (CN live m) H with|some y=>y|none=>x)
 |_=>x
def Xi(x:Fb H):PX:=(lT body K H x).ok.land (match (lT body K H x).norm with
 |.some m=>if SU K (CN live m)&&(Ik (CN live m) H).isSome then .tt else .ff
 |.none=>.tt
 |.fail=>.ff)
end
def Kz (live:List Nat)(n:Nat)(body:DS→DT)(st:DS):DT:=
 if (body (CN live st)).norm.isNone then (body (CN live st)).map (Ic (CN live st))
 else match Mh live body (CN live st) n (CN live st) with
 |none=>.bad
 | some (H,K)=>(match Ik (CN live st) H with
   |none=>.bad
   | some x0=>if JZ K H then
      .chk (.p (LoopOk (KD body K H) (Kx live body K H) (fun x=>(Xi live body K H x).den) x0))
       ((lT body K H (AF (KD body K H) (Kx live body K H) x0)).drop.map (Ic (wrX K H (AF (KD body K H) (Kx live body K H) x0))))
     else .bad)
abbrev Ib:=List DV→Option (PX×DV)
abbrev Cv:=List DV→List (List DV)→Option (PX×DV×List (List DV))
structure DMk where
 r:RT
 agg:Bool
 ok:r.D→Prop
 g:r.D→Int→r.D×Int
 vd:Bool
def DMk.P(M:DMk):PMk:=⟨M.agg,fun AG m K=>∃ x,AG=M.r.enc x∧M.ok x∧K (M.r.enc (M.g x m).1) (M.g x m).2,M.vd⟩
inductive DOp where
 |a (m:Bool) (o:AOp) (ty:Option RT)
 |aw (ws:List (Nat×Nat)) (m:Bool) (o:AOp) (ty:Option RT)
 |call (m:Bool) (f:AS) (p:BB) (D:Ib) (args:List Opnd)
 |mark (f:AS) (M:DMk) (x k:Opnd)
 |callp (m:Bool) (f:AS) (p:BB) (D:Cv) (args:List Opnd)
 |callv (m:Bool) (f:AS) (p:BB) (D:Cv) (args:List Opnd) (i c:Nat)
structure DOper where
 id:Nat
 dst:Option Nat
 op:DOp
 guard:Option (Nat×Bool)
 anc:List Nat
inductive DCode where
 |skip
 |region (ops:List DOper)
 |regionU (ops:List DOper)
 |seq (l:List Nat) (a b:DCode)
 |cond (c:Opnd) (a b:DCode)
 |block (id:Nat) (a:DCode)
 |loop (live:List Nat) (n:Nat) (a:DCode)
 |exit (id:Nat)
 |ret
def DOp.er:DOp→POp
 |.a m o _=>.a m o
 |.aw ws m o _=>.aw ws m o
 |.call m f p _ args=>.callk m f p args
 |.mark f M x k=>.mark f M.P x k
 |.callp m f p _ args=>.call m f p args
 |.callv m f p _ args i c=>.callv m f p args i c
def DOper.er(o:DOper):POper:=⟨o.id,o.dst,o.op.er,o.guard,o.anc⟩
def DCode.er:DCode→PCode
 |.skip=>.skip
 |.region ops=>.region (ops.map DOper.er)
 |.regionU ops=>.regionU (ops.map DOper.er)
 |.seq l a b=>.seq l a.er b.er
 |.cond c a b=>.cond c a.er b.er
 |.block i a=>.block i a.er
 |.loop l _ a=>.loop l a.er
 |.exit i=>.exit i
 |.ret=>.ret
@[reducible] def oa (i d:Nat) (o:AOp):DOper:=⟨i,some d,.a false o none,none,[]⟩
@[reducible] def ob (i d:Nat) (o:AOp):DOper:=⟨i,some d,.a true o none,none,[]⟩
@[reducible] def om (i d t:Nat):DOper:=⟨i,some d,.a false (.mv (.t t)) none,none,[]⟩
@[reducible] def on (i d t:Nat):DOper:=⟨i,some d,.a true (.mv (.t t)) none,none,[]⟩
@[reducible] def oi (i d:Nat) (n:Int):DOper:=⟨i,some d,.a false (.mv (.c (.int .i64 n))) none,none,[]⟩
@[reducible] def os (i:Nat) (o:AOp):DOper:=⟨i,none,.a false o none,none,[]⟩
@[reducible] def og (i d:Nat) (o:AOp) (g:Nat) (b:Bool):DOper:=⟨i,some d,.a false o none,some (g,b),[]⟩
@[reducible] def xA (i d:Nat) (o:AOp) (a:List Nat):DOper:=⟨i,some d,.a false o none,none,a⟩
@[reducible] def xB (i d:Nat) (o:AOp) (a:List Nat):DOper:=⟨i,some d,.a true o none,none,a⟩
@[reducible] def xS (i:Nat) (o:AOp) (a:List Nat):DOper:=⟨i,none,.a false o none,none,a⟩
@[reducible] def op (i d:Nat) (f:AS) (p:BB) (D:Cv) (args:List Opnd):DOper:=⟨i,some d,.callp false f p D args,none,[]⟩
def WR:Nat→Nat→List Nat
 |_,0=>[]
 |k,n+1=>k::WR (k+1) n
def rg(n:Nat):List Nat:=WR 0 n
def C6:List Opnd→DS→DS
 |[],st=>st
 |x::r,st=>C6 r (I3 x st).2
def Dx(s:List DC):List Opnd→List DV
 |[]=>[]
 |x::r=>x.dev s::Dx s r
def I8(D:Ib)(args:List Opnd)(st:DS):C3:=
 let as:=Dx st.sl args
 if Fs as&&!(DV.hasPtrL as) then (match D (DV.fzL as) with
  |some (g,v)=>if v.ok&&!v.hasPtr&&(v.deep||!(DV.holdL as)) then some (g,v,st) else none
  |none=>none)
 else none
def Ql.isH':Ql→Bool
 |.bor (.h _) _ _=>true
 |.pre (.h _) _=>true
 |_=>false
mutual
def DV.isH:DV→Bool
 |.nil q=>q.isH'
 |.sl q _ _=>q.isH'
 |.ep q _ _ _ _=>q.isH'
 |.agg cs=>DV.isHL cs
 |.tup vs=>DV.isHL vs
 |_=>false
def DV.isHL:List DV→Bool
 |[]=>false
 |v::r=>v.isH||DV.isHL r
end
def Mm:List DC→List DC
 |[]=>[]
 |c::r=>(if c.v.isH then ⟨true,.any⟩ else c)::Mm r
def E6:List (List DC)→List (List DV)
 |[]=>[]
 |b::r=>A0 b::E6 r
def newsB:List (List DV)→List (List DC)
 |[]=>[]
 |b::r=>news b::newsB r
def Jh:List DC→List DV→List DC
 |[],vs=>news vs
 |c::r,[]=>c::r
 |c::r,v::vs=>(if v.isAny then c else ⟨true,v⟩)::Jh r vs
def Ji:List (List DC)→List (List DV)→List (List DC)
 |[],vs=>newsB vs
 |c::r,[]=>c::r
 |c::r,v::vs=>Jh c v::Ji r vs
def DU:List DV→List DV→List DV
 |[],vs=>vs
 |c::r,[]=>c::r
 |c::r,v::vs=>(if v.isAny then c else v)::DU r vs
def Gp:List (List DV)→List (List DV)→List (List DV)
 |[],vs=>vs
 |c::r,[]=>c::r
 |c::r,v::vs=>DU c v::Gp r vs
def PA:List (List DV)→Bool
 |[]=>true
 |b::r=>Nat.blt 0 b.length&&DV.okL b&&PA r
def Es:List (List DV)→List (List PV)
 |[]=>[]
 |b::r=>DV.encL b::Es r
def DV.isP0:DV→Bool
 |.ptr 0 0=>true
 |_=>false
def G6(D:Cv)(args:List Opnd)(st:DS):C3:=
 let as:=Dx st.sl args
 if Fs as&&!(DV.holdL as)&&PA (E6 st.hp) then
  (if DV.hasPtrL as then (match D (DV.fzL as) (E6 st.hp) with
   |some (g,v,H)=>if v.ok&&!v.hasPtr then some (g,v,{ st with sl:=Mm st.sl,hp:=Ji st.hp H }) else none
   |none=>none)
  else if st.hp.length == 0 then (match D (DV.fzL as) [] with
   |some (g,v,H)=>if v.isP0 then some (g,v,{ st with hp:=newsB H }) else none
   |none=>none)
  else none)
 else none
def DV.ownS:DV→Bool
 |.sl .own _ _|.nil .own=>true
 |_=>false
def LW(i c:Nat)(D:Cv)(args:List Opnd)(st:DS):C3:=
 if DV.hasPtrL (Dx st.sl args)&&(Bm st (.b i) [c]).ownS then G6 D args st else none
def DV.isAgg:DV→Bool
 |.agg _=>true
 |_=>false
def DV.flatc:DV→Bool
 |.bool _|.int _ _|.str _|.ifc _=>true
 |_=>false
def Pg:Nat→List DV→Option (Hd×Nat)
 |_,[]=>none
 |c,.sl (.bor hd [p] true) _ _::_=>if Nat.ble c p&&hd.sb then some (hd,p-c) else none
 |c,.nil (.bor hd [p] true)::_=>if Nat.ble c p&&hd.sb then some (hd,p-c) else none
 |c,_::r=>Pg (c+1) r
def ED(st:DS)(hd:Hd):Nat→List DV→Option (PX×List DV)
 |_,[]=>some (.tt,[])
 |c,.sl q _ l::vs=>if Df q (.bor hd [c] true) then (match Bm st hd [c],ED st hd (c+1) vs with
  |.sl .own r' l',some (g,os)=>some (PX.land (.p (l.length=l'.length)) g,.sl .own r' l'::os)
  |.nil .own,some (g,os)=>some (PX.land (.p (l.length=0)) g,.nil .own::os)
  |_,_=>none) else none
 |c,.nil q::vs=>if Df q (.bor hd [c] true) then (match Bm st hd [c],ED st hd (c+1) vs with
  |.sl .own r' l',some (g,os)=>some (PX.land (.p (l'.length=0)) g,.sl .own r' l'::os)
  |.nil .own,some (g,os)=>some (g,.nil .own::os)
  |_,_=>none) else none
 |c,v::vs=>if v.flatc then (match ED st hd (c+1) vs with
  |some (g,os)=>some (g,v::os)
  |none=>none) else none
def FL(hd:Hd):Nat→List DV→DS→Option DS
 |_,[],st=>some st
 | c,.sl q r l::vs,st=>(match Bm st hd [c] with
   |.sl .own _ _=>FL hd (c+1) vs (Eu st (.sl q r l) hd [c])
   |.nil .own=>FL hd (c+1) vs (Eu st (.sl q r l) hd [c])
   |_=>none)
 |_,.nil _::_,_=>none
 |c,_::vs,st=>FL hd (c+1) vs st
def Ja (M:DMk)(x k:Opnd)(st:DS):C3:=
 match k.dev st.sl with
 | .int .i64 m=>if (x.dev st.sl).isAgg == M.agg&&(x.dev st.sl).argok then (match Pg 0 (x.dev st.sl).cells with
   | some (hd,b)=>(match ED st hd b (x.dev st.sl).cells with
     | some (g,os)=>(match M.r.of os with
       | some y=>(match FL hd b (M.r.dv .own (M.g y m).1) st with
         |some st'=>some (g.land (.p (M.ok y)),(match M.vd with|true=>.undef|false=>.int .i64 (M.g y m).2),st')
         |none=>none)
       |none=>none)
     |none=>none)
   |none=>none) else none
 |_=>none
def BW(o:DOp)(d:Option Nat)(k:DS→DT)(st:DS):DT:=
 match o with
 | .call m _ _ D args=>(match I8 D args (if m then C6 args st else st) with
   |some (g,v,st)=>DT.chk' g (k (st.put d v))
   |none=>.bad)
 | .callp m _ _ D args=>(match G6 D args (if m then C6 args st else st) with
   |some (g,v,st)=>DT.chk' g (k (st.put d v))
   |none=>.bad)
 | .callv m _ _ D args i c=>(match LW i c D args (if m then C6 args st else st) with
   |some (g,v,st)=>DT.chk' g (k (st.put d v))
   |none=>.bad)
 | .aw ws m o ty=>(match I0 ws m o ty st with
   |some (g,v,st)=>DT.chk' g (k (st.put d v))
   |none=>.bad)
 | .mark _ M x y=>(match Ja M x y st with
   |some (g,v,st)=>DT.chk' g (k (st.put d v))
   |none=>.bad)
 | .a m o ty=>(match o with
   | .pick c a b=>(match c.dev st.sl with
     | .bool (.lit t)=>(match if t then AK a st else AK b st with
       |(v,st)=>if v.ok then k (st.put d v) else .bad)
     | .bool (.dyn t)=>
       if (a.dev st.sl).own||(b.dev st.sl).own||!(Ca t (a.dev st.sl) (b.dev st.sl)).ok then .node t (match AK a st with|(v,st)=>if v.ok then k (st.put d v) else .bad) (match AK b st with|(v,st)=>if v.ok then k (st.put d v) else .bad)
       else k (st.put d (Ca t (a.dev st.sl) (b.dev st.sl)))
     |_=>.bad)
   | o=>(match AY m o ty st with
     |some (g,v,st)=>DT.chk' g (k (st.put d v))
     |none=>.bad))
def Jd(st:DS)(g:Nat)(b:Bool):DS:={ st with sl:=Cl st.sl g (.bool (.lit b)) }
def Kt(o:DOper)(k:DS→DT)(st:DS):DT:=
 match o.guard with
 |none=>BW o.op o.dst k st
 | some (g,want)=>(match AR st.sl g with
   |.bool (.lit b)=>if b == want then BW o.op o.dst k st else k (st.put o.dst (.tup []))
   |.bool (.dyn b)=>.node b (if want then BW o.op o.dst k (Jd st g true) else k ((Jd st g true).put o.dst (.tup []))) (if want then k ((Jd st g false).put o.dst (.tup [])) else BW o.op o.dst k (Jd st g false))
   |.tup []=>k (st.put o.dst (.tup []))
   |_=>.bad)
def Gu:List DOper→DS→DT
 |[],st=>.leaf .normal st
 |o::r,st=>Kt o (Gu r) st
def setc(st:DS)(c:Opnd)(b:Bool):DS:=match c with
 |.t g=>Jd st g b
 |.c _=>st
def dev:DCode→DS→DT
 |.skip,st=>.leaf .normal st
 |.region ops,st=>Gu ops st
 |.regionU ops,st=>if Mz (ops.map DOper.er) then Gu ops st else .bad
 |.seq l a b,st=>(dev a st.clean).then (fun st'=>dev b (Ic st (Ph l st'))) (Ic st)
 | .cond c a b,st=>(match c.dev st.sl with
   |.bool (.lit t)=>if t then dev a st else dev b st
   |.bool (.dyn t)=>.node t (dev a (setc st c true)) (dev b (setc st c false))
   |_=>.bad)
 |.block i a,st=>(dev a st).unexit i
 |.loop live n a,st=>Kz live n (fun st=>dev a st.clean) st
 |.exit i,st=>.leaf (.exit i) st
 |.ret,st=>.leaf .ret st
structure DFun where
 nparams:Nat
 nslots:Nat
 nbox:Nat
 pure:Bool
 res:List ARes
 body:DCode
def DFun.er(f:DFun):PFun:=⟨f.nparams,f.nslots,f.nbox,f.pure,f.res,f.body.er⟩
def G4(st:DS):ARes→Option (DV×DS)
 |.tmp t=>if (AR st.sl t).retok&&(AR st.sl t).ok then some (MI (AR st.sl t) t st) else none
 | .cell t n=>(match AR st.sl t with
   |.box i o=>if Nat.ble (o+n.getD 1) (A6 st.bx i).length&&Gj (Bf (A0 (A6 st.bx i)) o (n.getD 1)) then (I6 true i n (.box i o) st).map (·.2) else none
   |.ptr i o=>if Nat.ble (o+n.getD 1) (A6 st.hp i).length&&Gj (Bf (A0 (A6 st.hp i)) o (n.getD 1)) then (HR true n (.ptr i o) st).map (·.2) else none
   |_=>none)
def Fu(st:DS):List ARes→Option (List DV×DS)
 |[]=>some ([],st)
 | r :: rs=>(match G4 st r with
   | some (v,st)=>(match Fu st rs with
     |some (vs,st)=>some (v::vs,st)
     |none=>none)
   |none=>none)
def Et(st:DS):List ARes→Option DV
 |[r]=>(G4 st r).map (·.1)
 |rs=>(Fu st rs).map fun x=>.tup x.1
def DT.val(res:List ARes):DT→PX×Option DV
 |.leaf (.exit _) _=>(.ff,none)
 | .leaf _ st=>(match Et st res with
   |some v=>if v.ok&&!v.hasPtr then (.tt,some v) else (.ff,none)
   |none=>(.ff,none))
 | .node c a b=>(match a.val res,b.val res with
   |(g,none),(g',y)=>(PX.if' c g g',y)
   |(g,x),(g',none)=>(PX.if' c g g',x)
   |(g,some x),(g',some y)=>(PX.if' c g g',some (Ca c x y)))
 | .chk g t=>(match t.val res with
   |(g',v)=>(g.land g',v))
 |.bad=>(.ff,none)
def Eo(n:Nat):List DC:=match n with
 |0=>[]
 |n+1=>⟨true,.any⟩::Eo n
def Er:Nat→List (List DC)
 |0=>[]
 |n+1=>[]::Er n
def MC(f:DFun)(args:List DV):PX×Option DV:=
 (dev f.body ⟨news args++Eo (f.nslots-f.nparams),Er f.nbox,[]⟩).val f.res
end
def EC(c:DC)(p:PV):Prop:=c.v= .any∨p=c.v.enc
def EL:List DC→List PV→Prop
 |[],[]=>True
 |c::a,p::b=>EC c p∧EL a b
 |_,_=>False
def EBx(b:List DC)(p:List PV):Prop:=b=[]∨EL b p
def EB:List (List DC)→List (List PV)→Prop
 |[],[]=>True
 |c::a,p::b=>EBx c p∧EB a b
 |_,_=>False
structure ES (d:DS) (s:PS):Prop where
 sl:EL d.sl s.sl
 bx:EB d.bx s.bx
 hp:EB d.hp s.hp
theorem EL.len:∀ {a:List DC} {b:List PV},EL a b→a.length=b.length
 |[],[],_=>rfl
 |_::_,_::_,h=>by simp only[Bu,EL.len h.2]
theorem EB.len:∀ {a:List (List DC)} {b:List (List PV)},EB a b→a.length=b.length
 |[],[],_=>rfl
 |_::_,_::_,h=>by simp only[Bu,EB.len h.2]
def EV(v:DV)(p:PV):Prop:=v= .any∨p=v.enc
theorem EL.get:∀ {a:List DC} {b:List PV} (n:Nat),EL a b→EV (AR a n) (Aa b n)
 |[],[],_,_=>.inl rfl
 |_::_,_::_,0,h=>h.1
 |_::_,_::_,n+1,h=>EL.get n h.2
theorem EL.put:∀ {a:List DC} {b:List PV} {v:DV} {p:PV} (n:Nat),EL a b→EV v p→EL (Cl a n v) (A9 b n p)
 |[],[],_,_,_,_,_=>trivial
 |_::_,_::_,_,_,0,h,hv=>⟨hv,h.2⟩
 |_::_,_::_,_,_,n+1,h,hv=>⟨h.1,EL.put n h.2 hv⟩
theorem EB.get:∀ {a:List (List DC)} {b:List (List PV)} (n:Nat),EB a b→EBx (A6 a n) (Am b n)
 |[],[],_,_=>.inl rfl
 |_::_,_::_,0,h=>h.1
 |_::_,_::_,n+1,h=>EB.get n h.2
theorem EB.put:∀ {a:List (List DC)} {b:List (List PV)} {v:List DC} {p:List PV} (n:Nat),EB a b→EBx v p→EB (DQ a n v) (Bh b n p)
 |[],[],_,_,_,_,_=>trivial
 |_::_,_::_,_,_,0,h,hv=>⟨hv,h.2⟩
 |_::_,_::_,_,_,n+1,h,hv=>⟨h.1,EB.put n h.2 hv⟩
theorem Dj:∀ (l:List DV),(DV.encL l).length=l.length
 |[]=>rfl
 |_::r=>by simp only[DV.encL,Bu,Dj r]
theorem EL.splice:∀ {a:List DC} {b:List PV} (n:Nat) (vs:List DV),EL a b→EL (F3 a n vs) (Aq b n (DV.encL vs))
 |[],[],_,[],_=>trivial
 |[],[],_,_::_,_=>trivial
 |_::_,_::_,0,[],h=>h
 |_::_,_::_,_+1,[],h=>h
 |_::_,_::_,0,v::vs,h=>⟨.inr rfl,EL.splice 0 vs h.2⟩
 |_::_,_::_,n+1,v::vs,h=>⟨h.1,EL.splice n (v::vs) h.2⟩
theorem K7:∀ (cs:List DV) (n:Nat) (vs:List DV),DV.encL (F5 cs n vs)=Aq (DV.encL cs) n (DV.encL vs)
 |[],_,[]=>rfl
 |_::_,0,[]=>rfl
 |_::_,_+1,[]=>rfl
 |[],0,_::_=>rfl
 |[],_+1,_::_=>rfl
 |_::r,0,v::vs=>by simp only[F5,DV.encL,Aq,K7 r 0 vs]
 |c::r,n+1,v::vs=>by simp only[F5,DV.encL,Aq,K7 r n (v::vs)]
theorem NV:∀ (cs:List DV) (o n:Nat),DV.encL (Bf cs o n)=segm (DV.encL cs) o n
 |[],0,0=>rfl
 |[],0,_+1=>rfl
 |[],_+1,_=>rfl
 |_::_,0,0=>rfl
 |c::r,0,n+1=>by simp only[Bf,DV.encL,segm,NV r 0 n]
 | _::r,o+1,n=>by
   simp only[Bf,DV.encL,segm];exact NV r o n
theorem J1:∀ (cs:List DV) (n:Nat),(EF cs n).enc=Aa (DV.encL cs) n
 |[],_=>rfl
 |_::_,0=>rfl
 |_::r,n+1=>J1 r n
theorem Oj:∀ (cs:List DV) (n:Nat) (v:DV),DV.encL (KL cs n v)=A9 (DV.encL cs) n v.enc
 |[],_,_=>rfl
 |_::_,0,_=>rfl
 |_::r,n+1,v=>by simp only[KL,DV.encL,A9,Oj r n v]
theorem EL.segm:∀ {a:List DC} {b:List PV} (o n:Nat),EL a b→DV.okL (Bf (A0 a) o n)=true→Go.Ag.segm b o n=DV.encL (Bf (A0 a) o n)
 |[],[],0,0,_,_=>rfl
 |[],[],0,_+1,_,_=>rfl
 |[],[],_+1,_,_,_=>rfl
 |_::_,_::_,0,0,_,_=>rfl
 | c::r,p::s,0,n+1,h,hk=>by
   simp only[A0,Bf,DV.okL,Ah] at hk
   simp only[A0,Bf,Go.Ag.segm,DV.encL]
   rw[EL.segm 0 n h.2 hk.2]
   rcases h.1 with h1|h1
   · rw[h1] at hk;cases hk.1
   · rw[h1]
 | _::r,_::s,o+1,n,h,hk=>by
   simp only[A0,Bf,Go.Ag.segm] at hk ⊢
   exact EL.segm o n h.2 hk
theorem Lo:∀ (a:List DC),(A0 a).length=a.length
 |[]=>rfl
 |_::r=>by simp only[A0,Bu,Lo r]
theorem EL.news:∀ (vs:List DV),EL (Go.Ag.news vs) (DV.encL vs)
 |[]=>trivial
 |_::r=>⟨.inr rfl,EL.news r⟩
theorem V3(q:Ql)(es:List (List PV)):(PV.sl q es).own=q.own':=by cases q<;>rfl
theorem We(q:Ql)(hd:Hd)(es:List (List PV)):(PV.sl q es).bor hd=q.bor' hd:=by cases q<;>rfl
theorem dH(q:Ql)(hd:Hd)(es:List (List PV))(j o:Nat):(PV.ep q es j o).bor hd=q.bor' hd:=by cases q<;>rfl
mutual
theorem GV:∀ (v:DV),v.enc.own=v.own
 |.any|.undef|.bool _|.int _ _|.str _|.ifc _|.box _ _|.ptr _ _=>rfl
 |.nil q=>V3 q []
 |.sl q _ _=>V3 q _
 |.ep q _ _ _ _=>by cases q<;>rfl
 |.agg cs=>J0 cs
 |.tup vs=>J0 vs
theorem J0:∀ (l:List DV),PV.ownL (DV.encL l)=DV.ownL l
 |[]=>rfl
 |v::r=>by simp only[DV.encL,PV.ownL,DV.ownL,GV v,J0 r]
end
mutual
theorem Ou(hd:Hd):∀ (v:DV),v.enc.bor hd=v.bor hd
 |.any|.undef|.bool _|.int _ _|.str _|.ifc _|.box _ _|.ptr _ _=>rfl
 |.nil q=>We q hd []
 |.sl q _ _=>We q hd _
 |.ep q _ _ _ _=>dH q hd _ _ _
 |.agg cs=>QN hd cs
 |.tup vs=>QN hd vs
theorem QN(hd:Hd):∀ (l:List DV),PV.borL hd (DV.encL l)=DV.borL hd l
 |[]=>rfl
 |v::r=>by simp only[DV.encL,PV.borL,DV.borL,Ou hd v,QN hd r]
end
mutual
theorem di:∀ (v:DV),v.enc.hold=v.hold
 |.any|.undef|.bool _|.int _ _|.str _|.ifc _|.box _ _|.ptr _ _=>rfl
 |.nil q=>by cases q<;>rfl
 |.sl q _ _=>by cases q<;>rfl
 |.ep q _ _ _ _=>by cases q<;>rfl
 |.agg cs=>Ld cs
 |.tup vs=>Ld vs
theorem Ld:∀ (l:List DV),PV.holdL (DV.encL l)=DV.holdL l
 |[]=>rfl
 |v::r=>by simp only[DV.encL,PV.holdL,DV.holdL,di v,Ld r]
end
mutual
theorem WQ:∀ (v:DV),v.fz.enc=v.enc.fz
 |.any|.undef|.bool _|.int _ _|.str _|.ifc _|.box _ _|.ptr _ _|.nil _|.sl _ _ _|.ep _ _ _ _ _=>rfl
 |.agg cs=>by simp only[DV.fz,DV.enc,PV.fz,J9 cs]
 |.tup cs=>by simp only[DV.fz,DV.enc,PV.fz,J9 cs]
theorem J9:∀ (l:List DV),DV.encL (DV.fzL l)=PV.fzL (DV.encL l)
 |[]=>rfl
 |v::r=>by simp only[DV.encL,PV.fzL,DV.fzL,WQ v,J9 r]
end
mutual
theorem Qz:∀ (v:DV),v.detop.enc=v.enc.detop
 |.any|.undef|.bool _|.int _ _|.str _|.ifc _|.box _ _|.ptr _ _=>rfl
 |.nil q=>by cases q<;>rfl
 |.sl q _ _=>by cases q<;>rfl
 |.ep q _ _ _ _=>by cases q<;>rfl
 |.agg cs=>by simp only[DV.detop,DV.enc,PV.detop,Qf cs]
 |.tup cs=>by simp only[DV.detop,DV.enc,PV.detop,Qf cs]
theorem Qf:∀ (l:List DV),DV.encL (DV.detopL l)=PV.detopL (DV.encL l)
 |[]=>rfl
 |v::r=>by simp only[DV.encL,PV.detopL,DV.detopL,Qz v,Qf r]
end
mutual
theorem NL:∀ (v:DV),v.enc.hasPtr=v.hasPtr
 |.any|.undef|.bool _|.int _ _|.str _|.ifc _|.box _ _|.ptr _ _|.nil _|.sl _ _ _|.ep _ _ _ _ _=>rfl
 |.agg cs=>HA cs
 |.tup vs=>HA vs
theorem HA:∀ (l:List DV),PV.hasPtrL (DV.encL l)=DV.hasPtrL l
 |[]=>rfl
 |v::r=>by simp only[DV.encL,PV.hasPtrL,DV.hasPtrL,NL v,HA r]
end
mutual
theorem Wp:∀ (t:CT) (x:t.D),(CT.enc t x).deep=true
 |.int _,_|.bool,_|.str,_|.ifc,_=>rfl
 | .sl r,l=>by
   simp only[CT.enc,PV.deep]
   exact Q8 r l
theorem Wo:∀ (r:RT) (x:r.D),PV.deepL (RT.enc r x)=true
 |.one t,x=>by simp only[RT.enc,PV.deepL,Wp t x,B8]
 |.cons t r,x=>by simp only[RT.enc,PV.deepL,Wp t x.1,Wo r x.2,B8]
theorem Q8:∀ (r:RT) (l:List r.D),PV.deepE (l.map (RT.enc r))=true
 |_,[]=>rfl
 |r,x::l=>by simp only[BG,PV.deepE,Wo r x,Q8 r l,B8]
end
theorem EL.clr(hd:Hd):∀ {a:List DC} {b:List PV},EL a b→EL (Cm hd a) (Go.Ag.clr hd b)
 |[],[],_=>trivial
 | c :: _,p::_,h=>by
   refine⟨?_,EL.clr hd h.2⟩
   by_cases hb:c.v.bor hd=true
   · rw[Ab hb];exact .inl rfl
   · rw[Ae hb]
     rcases h.1 with h1|h1
     · exact .inl h1
     · rw[h1,Ou,Ae hb];exact .inr rfl
theorem bV(i:Nat)(v:DV):v.enc.isBox i=v.isBox i:=by cases v<;>rfl
theorem EL.clearBox(i:Nat):∀ {a:List DC} {b:List PV},EL a b→EL (Lh i a) (Ec i b)
 |[],[],_=>trivial
 | c :: _,p::_,h=>by
   refine⟨?_,EL.clearBox i h.2⟩
   by_cases hb:c.v.isBox i=true
   · rw[Ab hb];exact .inl rfl
   · rw[Ae hb]
     rcases h.1 with h1|h1
     · exact .inl h1
     · rw[h1,bV,Ae hb];exact .inr rfl
theorem EL.trim(live:List Nat):∀ {a:List DC} {b:List PV} (n:Nat),EL a b→EL (Pr live n a) (D5 live n b)
 |[],[],_,_=>trivial
 | c::_,p::_,n,h=>by
   refine⟨?_,EL.trim live (n+1) h.2⟩
   by_cases hb:live.contains n=true
   · rw[Ab hb,Ab hb];exact h.1
   · rw[Ae hb];exact .inl rfl
mutual
theorem VN:∀ (v:DV),v.hasTop=false→v.detop=v
 |.any,_|.undef,_|.bool _,_|.int _ _,_|.str _,_|.ifc _,_|.box _ _,_|.ptr _ _,_=>rfl
 |.nil q,h=>by cases q<;>first|rfl|(simp only[DV.hasTop,DV.top] at h;first|(subst h;rfl)|cases h)
 |.sl q _ _,h=>by cases q<;>first|rfl|(simp only[DV.hasTop,DV.top] at h;first|(subst h;rfl)|cases h)
 |.ep q _ _ _ _,h=>by cases q<;>first|rfl|(simp only[DV.hasTop,DV.top] at h;first|(subst h;rfl)|cases h)
 |.agg cs,h=>by simp only[DV.hasTop] at h;simp only[DV.detop,Qt cs h]
 |.tup cs,h=>by simp only[DV.hasTop] at h;simp only[DV.detop,Qt cs h]
theorem Qt:∀ (l:List DV),DV.hasTopL l=false→DV.detopL l=l
 |[],_=>rfl
 | v::r,h=>by
   simp only[DV.hasTopL,Cj] at h
   simp only[DV.detopL,VN v h.1,Qt r h.2]
end
theorem EL.keep(live:List Nat):∀ {a:List DC} {b:List PV} (n:Nat),EL a b→EL (O9 live n a) (Db live n b)
 |[],[],_,_=>trivial
 | c :: _,p::_,n,h=>by
   refine⟨?_,EL.keep live (n+1) h.2⟩
   by_cases hb:live.contains n=true
   · rw[Ab hb,Ab hb]
     rcases h.1 with h1|h1
     · rw[h1];exact .inl h1
     · by_cases ht:c.v.hasTop=true
       · rw[Ab ht,h1];exact .inr (Qz c.v).symm
       · rw[Ae ht,h1,← Qz,VN c.v (by simpa using ht)];exact .inr rfl
   · rw[Ae hb];exact .inl rfl
theorem EL.clean:∀ {a:List DC} {b:List PV},EL a b→EL (Go.Ag.clean a) b
 |[],[],_=>trivial
 |_::_,_::_,h=>⟨h.1,EL.clean h.2⟩
theorem EBx.clean{a:List DC}{b:List PV}(h:EBx a b):EBx (Go.Ag.clean a) b:=by
 rcases h with rfl|h
 · exact .inl rfl
 · exact .inr h.clean
theorem EB.clean:∀ {a:List (List DC)} {b:List (List PV)},EB a b→EB (Kr a) b
 |[],[],_=>trivial
 |_::_,_::_,h=>⟨h.1.clean,EB.clean h.2⟩
theorem ES.clean{d:DS}{s:PS}(h:ES d s):ES d.clean s:=⟨h.sl.clean,h.bx.clean,h.hp.clean⟩
theorem ES.trim{d:DS}{s:PS}(l:List Nat)(h:ES d s):ES (Ph l d) { s with sl:=D5 l 0 s.sl }:=⟨h.sl.trim l 0,h.bx,h.hp⟩
theorem ES.keep{d:DS}{s:PS}(l:List Nat)(h:ES d s):ES (CN l d) { s with sl:=Db l 0 s.sl }:=⟨h.sl.keep l 0,h.bx,h.hp⟩
theorem EL.rem:∀ {x a:List DC} {b:List PV},EL a b→EL (KI x a) b
 |[],[],[],_=>trivial
 |[],_::_,_::_,h=>h
 |_::_,[],[],_=>trivial
 |_::_,_::_,_::_,h=>⟨h.1,EL.rem h.2⟩
theorem EBx.rem{x a:List DC}{b:List PV}(h:EBx a b):EBx (KI x a) b:=by
 rcases h with rfl|h
 · cases x<;>exact .inl rfl
 · exact .inr h.rem
theorem EB.rem:∀ {x a:List (List DC)} {b:List (List PV)},EB a b→EB (ML x a) b
 |[],[],[],_=>trivial
 |[],_::_,_::_,h=>h
 |_::_,[],[],_=>trivial
 |_::_,_::_,_::_,h=>⟨h.1.rem,EB.rem h.2⟩
theorem ES.rem{x d:DS}{s:PS}(h:ES d s):ES (Ic x d) s:=⟨h.sl.rem,h.bx.rem,h.hp.rem⟩
theorem ES.put{d:DS}{s:PS}(x:Option Nat)(v:DV)(h:ES d s):ES (d.put x v) (s.put x v.enc):=by
 cases x with
 |none=>exact h
 | some n=>
   simp only[DS.put,PS.put,GV];by_cases ho:v.own=true
   · rw[Ab ho,Ab ho];exact⟨(h.sl.put n (.inr rfl)).clr _,h.bx,h.hp⟩
   · rw[Ae ho,Ae ho];exact⟨h.sl.put n (.inr rfl),h.bx,h.hp⟩
theorem Ol(v:V)(h:Gx v≠.any):(Gx v).enc=AW v:=by
 cases v<;>first|rfl|skip
 case tup vs=>cases vs<;>rfl
theorem Di{d:DS}{s:PS}(x:Opnd)(h:ES d s)(hk:(AK x d).1.ok=true):(mvOut x s).1=(AK x d).1.enc∧ES (AK x d).2 (mvOut x s).2:=by
 cases x with
 | c v=>
   refine⟨?_,h⟩;refine(Ol v fun he=>?_).symm;simp only[AK,he,DV.ok,Ax] at hk
 | t n =>
   simp only[AK,MI,mvOut,Dy] at hk ⊢;rcases h.sl.get n with hg|hg
   · rw[hg] at hk;simp only[DV.own,Ax,AJ,DV.ok] at hk
   · rw[hg,GV,Ou];by_cases ho:(AR d.sl n).own=true
     · simp only[ho,AE] at hk ⊢;by_cases hb:(AR d.sl n).bor (.s n)=true
       · simp only[hb,AE,DV.ok,Ax] at hk
       · simp only[hb] at hk ⊢;exact⟨rfl,(h.sl.put n (.inl rfl)).clr _,h.bx,h.hp⟩
     · simp only[ho] at hk ⊢;exact⟨rfl,h⟩
theorem c7(v:DV)(h:v.cell=true):v.enc.cell=true:=by
 cases v<;>first|rfl|cases h|skip
 case nil q=>cases q<;>first|rfl|cases h
 case sl q r l=>cases q<;>first|rfl|cases h
theorem IC:∀ (l:List DV),Ch l=true→AV (DV.encL l)=true
 |[],_=>rfl
 | v::r,h=>by
   simp only[Ch,Ah] at h
   simp only[DV.encL,AV,c7 v h.1,IC r h.2,B8]
theorem eA(v:DV)(h:v.cell=true):v.ok=true:=by cases v<;>first|rfl|cases h
theorem U7:∀ (l:List DV),Ch l=true→DV.okL l=true
 |[],_=>rfl
 | v::r,h=>by
   simp only[Ch,Ah] at h
   simp only[DV.okL,eA v h.1,U7 r h.2,B8]
theorem GR(v:DV):v.enc.cells=DV.encL v.cells:=by cases v<;>rfl
theorem Ln(v:DV)(h:Ch v.cells=true):v.ok=true:=by
 cases v<;>first|rfl|(simp only[DV.cells,Ch,DV.cell,KE,Ax] at h)|skip
 case agg cs=>exact U7 cs h
theorem Q3(v:DV)(h:v.retc=true):v.enc.retc=true:=by
 cases v<;>first|rfl|cases h|skip
 case nil q=>cases q<;>first|rfl|cases h
 case sl q r l=>cases q<;>first|rfl|cases h
theorem N9:∀ (l:List DV),Gj l=true→Dw (DV.encL l)=true
 |[],_=>rfl
 | v::r,h=>by
   simp only[Gj,Ah] at h
   simp only[DV.encL,Dw,Q3 v h.1,N9 r h.2,B8]
theorem bl(v:DV)(h:v.retok=true):v.enc.retok=true:=by
 cases v<;>first|rfl|cases h|skip
 case nil q=>exact Q3 (.nil q) h
 case sl q r l=>exact Q3 (.sl q r l) h
 case agg cs=>exact N9 cs h
theorem VG(v:DV)(h:v.argc=true):v.enc.argc=true:=by cases v<;>first|rfl|cases h
theorem Vm:∀ (l:List DV),Ps l=true→Gy (DV.encL l)=true
 |[],_=>rfl
 | v::r,h=>by
   simp only[Ps,Ah] at h
   simp only[DV.encL,Gy,VG v h.1,Vm r h.2,B8]
theorem UR(v:DV)(h:v.argok=true):v.enc.argok=true:=by
 cases v<;>first|rfl|cases h|exact VG _ h|skip
 case agg cs=>exact Vm cs h
theorem NJ:∀ (l:List DV),Fs l=true→F9 (DV.encL l)=true
 |[],_=>rfl
 | v::r,h=>by
   simp only[Fs,Ah] at h
   simp only[DV.encL,F9,UR v h.1,NJ r h.2,B8]
theorem Opnd.dev_ev{d:DS}{s:PS}(h:ES d s)(x:Opnd):EV (x.dev d.sl) (x.pev s.sl):=by
 cases x with
 |t n=>exact h.sl.get n
 | c v=>
   by_cases hv:Gx v= .any
   · exact .inl hv
   · exact .inr (Ol v hv).symm
theorem EV.of{v:DV}{p:PV}(h:EV v p)(hn:v≠.any):p=v.enc:=h.resolve_left hn
theorem Y5{op:BinOp}{k:IntKind}{a b:Int}{g:PX}{v:DV}(h:OC op k a b=some (g,v))(hg:g.den):(Ge op k a b).map PV.fl=some v.enc:=by
 cases op<;>simp only[OC,dI,dB,Aj,Ak,reduceCtorEq] at h<;>obtain⟨rfl,rfl⟩:=h<;>simp only[Ge,W1,Ww,Wv,gi,WI,WX,gM,gj,bz,Pq,W9,Xe,W8,Xj,Xf,DV.enc,BX.b,BI]
 · rw[Ae (show ¬ b=0 from hg)];rfl
 · rw[Ae (show ¬ b=0 from hg)];rfl
theorem TL{op:BinOp}{k:IntKind}{a b:Int}{g:PX}{v:DV}(h:O5 op k a b=some (g,v))(hg:g.den):(IG op k a b).map PV.fl=some v.enc:=by
 cases op<;>simp only[O5,Aj,Ak,reduceCtorEq] at h<;>obtain⟨rfl,rfl⟩:=h<;>simp only[IG,fS,gE,DV.enc]<;>rw[Ae (show ¬ b<0 from Int.not_lt.mpr hg)]<;>rfl
theorem OB{k k':IntKind}(h:IntKind.same k k'=true):k=k':=by simpa [IntKind.same] using h
theorem aD{op:BinOp}{a b:DV}{p q:PV}{g:PX}{v:DV}(ha:EV a p)(hb:EV b q)(h:KM op a b=some (g,v))(hg:g.den):KA op p q=some v.enc:=by
 cases a<;>try (simp only[KM,reduceCtorEq] at h)
 case int k a=>
  cases b<;>try (simp only[KM,reduceCtorEq] at h)
  case int k' b=>
   rw[ha.of (by simp),hb.of (by simp)];simp only[DV.enc,KA,FI];by_cases h1:op= .shl
   · subst h1;exact TL h hg
   · by_cases h2:op= .shr
     · subst h2;exact TL h hg
     · have h3:(if IntKind.same k k'=true then OC op k a b else none)=some (g,v):=by cases op<;>first|exact h|exact absurd rfl h1|exact absurd rfl h2
       by_cases hk:IntKind.same k k'=true
       · rw[Ab hk] at h3;have:=OB hk;subst this;have h4:=Y5 h3 hg
         cases op<;>simp only[AE]<;>first|exact h4|exact absurd rfl h1|exact absurd rfl h2
       · rw[Ae hk] at h3;cases h3
 case str a=>
  cases b<;>try (simp only[KM,reduceCtorEq] at h)
  case str b=>
   rw[ha.of (by simp),hb.of (by simp)];cases op<;>simp only[KM,dB,Aj,Ak,reduceCtorEq] at h<;>obtain⟨rfl,rfl⟩:=h<;>simp only[DV.enc,KA,FI,WW,Xd,Xg,BX.b,BI];rw[Ab (show a.length+b.length≤9223372036854775807 from hg)];rfl
theorem RJ(x:BX):x.not.b=!x.b:=by cases x<;>simp only[BX.not,BX.b,Ks]
theorem iu(x y:BX):(x.eq y).b=(x.b == y.b):=by
 cases x with
 | lit a=>cases y with
   |lit b=>rfl
   |dyn b=>cases a<;>cases b<;>simp only[BX.eq,BX.b,Ks]<;>rfl
 | dyn a=>cases y with
   |lit b=>cases a<;>cases b<;>simp only[BX.eq,BX.b,Ks]<;>rfl
   |dyn b=>simp only[BX.eq,BX.b,Wz]
theorem aS{neg:Bool}{a b:DV}{p q:PV}{g:PX}{v:DV}(ha:EV a p)(hb:EV b q)(h:Pu neg a b=some (g,v)):Mt neg p q=some v.enc:=by
 cases a<;>try (simp only[Pu,reduceCtorEq] at h)
 case bool a=>
  cases b<;>try (simp only[Pu,reduceCtorEq] at h)
  case bool b=>
   rw[ha.of (by simp),hb.of (by simp)];simp only[Dz,Aj,Ak] at h;obtain⟨rfl,rfl⟩:=h;cases neg<;>simp only[DV.enc,Mt,AE,Ax,AJ,RJ,iu]
theorem aU{neg:Bool}{a:DV}{p:PV}{g:PX}{v:DV}(ha:EV a p)(h:SV neg a=some (g,v)):Mu neg p=some v.enc:=by
 cases a<;>try (simp only[SV,reduceCtorEq] at h)
 case ifc a=>
  rw[ha.of (by simp)];simp only[dB,Aj,Ak] at h;obtain⟨rfl,rfl⟩:=h;cases neg<;>simp only[DV.enc,Mu,AE,Ax,AJ,Ks,BX.b]
theorem cw{op:UnOp}{a:DV}{p:PV}{g:PX}{v:DV}(ha:EV a p)(h:S0 op a=some (g,v)):MM op p=some v.enc:=by
 cases op<;>cases a<;>simp only[S0,Dz,dI,Aj,Ak,reduceCtorEq] at h<;>obtain⟨rfl,rfl⟩:=h<;>rw[ha.of (by simp)]<;>simp only[DV.enc,MM,Ij,BI,RJ,gA]
theorem ZG{k:IntKind}{a:DV}{p:PV}{g:PX}{v:DV}(ha:EV a p)(h:SI k a=some (g,v)):L5 k p=some v.enc:=by
 cases a<;>simp only[SI,dI,Aj,Ak,reduceCtorEq] at h;obtain⟨rfl,rfl⟩:=h;rw[ha.of (by simp)];simp only[DV.enc,L5,eZ]
theorem Zz{a:DV}{p:PV}{g:PX}{v:DV}(ha:EV a p)(h:RQ a=some (g,v)):Oz p=some v.enc:=by
 cases a<;>simp only[RQ,Dz,Aj,Ak,reduceCtorEq] at h<;>obtain⟨rfl,rfl⟩:=h<;>rw[ha.of (by simp)]<;>rfl
theorem Zc{off:Nat}{a:DV}{p:PV}{g:PX}{v:DV}(ha:EV a p)(h:Rv off a=some (g,v)):N7 off p=some v.enc:=by
 cases a<;>simp only[Rv,Dz,Aj,Ak,reduceCtorEq] at h<;>obtain⟨rfl,rfl⟩:=h<;>rw[ha.of (by simp)]<;>rfl
theorem ax{a:DV}{p:PV}{g:PX}{v:DV}(ha:EV a p)(h:SW a=some (g,v)):Mp p=some v.enc:=by
 cases a<;>simp only[SW,dI,Aj,Ak,reduceCtorEq] at h<;>obtain⟨rfl,rfl⟩:=h<;>rw[ha.of (by simp)]<;>simp only[DV.enc,Mp,BE,RF,Br]<;>rfl
theorem ZL{a:DV}{p:PV}{g:PX}{v:DV}(ha:EV a p)(h:Sz a=some (g,v)):LO p=some v.enc:=by
 cases a<;>simp only[Sz,dI,Aj,Ak,reduceCtorEq] at h;obtain⟨rfl,rfl⟩:=h;rw[ha.of (by simp)];simp only[DV.enc,LO,RF]
theorem Zp{a b:DV}{p q:PV}{g:PX}{v:DV}(ha:EV a p)(hb:EV b q)(h:OM a b=some (g,v))(hg:g.den):LL p q=some v.enc:=by
 cases a<;>try (simp only[OM,reduceCtorEq] at h)
 cases b<;>simp only[OM,Aj,Ak,reduceCtorEq] at h;obtain⟨rfl,rfl⟩:=h;rw[ha.of (by simp),hb.of (by simp)];simp only[DV.enc,LL,fY];exact Ab hg
theorem L7:∀ (r:RT) (x:r.D),(RT.enc r x).length=r.w
 |.one _,_=>rfl
 |.cons _ r,x=>by simp only[RT.enc,Bu,RT.w,L7 r x.2]
theorem DI(r:RT):∀ (l:List r.D),BN r.w (l.map (RT.enc r))=true
 |[]=>rfl
 |x::l=>by simp only[BG,BN,L7,beq_self_eq_true,DI r l,B8]
theorem Ze{w:Nat}{x:Opnd}{a b:DV}{p q:PV}{g:PX}{v:DV}(ha:EV a p)(hb:EV b q)(h:Lx w x a b=some (g,v))(hg:g.den):Lu w x p q=some v.enc:=by
 cases a<;>try (simp only[Lx,reduceCtorEq] at h)
 case sl q' r l=>
  cases b<;>try (simp only[Lx,reduceCtorEq] at h)
  case int k j=>
   rw[ha.of (by simp),hb.of (by simp)];by_cases hw:(r.w == w)=true
   · rw[Ab hw] at h
     have hw':r.w=w:=by simpa using hw
     subst hw'
     cases hq:Dt x q' with
     |none=>rw[hq] at h;cases h
     | some q2=>
       rw[hq] at h;simp only[Aj,Ak] at h;obtain⟨rfl,rfl⟩:=h;simp only[DV.enc,Lu,BE,RY];rw[Ab ⟨hg.1,hg.2,DI r l⟩,hq];rfl
   · rw[Ae hw] at h;cases h
 case nil q'=>cases b<;>simp only[Lx,reduceCtorEq] at h
theorem aP{a b:DV}{p q:PV}{g:PX}{v:DV}(ha:EV a p)(hb:EV b q)(h:SY a b=some (g,v)):Mr p q=some v.enc:=by
 unfold SY at h;split at h
 · simp only[dI,Aj,Ak] at h;obtain⟨rfl,rfl⟩:=h;rw[ha.of (by simp),hb.of (by simp)];simp only[DV.enc,Mr,gC]
 · cases h
theorem aO{a b:DV}{p q:PV}{g:PX}{v:DV}(ha:EV a p)(hb:EV b q)(h:SP a b=some (g,v)):Mc p q=some v.enc:=by
 unfold SP at h;split at h
 · simp only[dI,Aj,Ak] at h;obtain⟨rfl,rfl⟩:=h;rw[ha.of (by simp),hb.of (by simp)];simp only[DV.enc,Mc,RZ]
 · cases h
theorem land_den(a b:PX):(a.land b).den↔a.den∧b.den:=by
 cases a<;>cases b<;>simp[PX.land,PX.den]
theorem Nx{d:Nat}{x:Option DV}{y:Option PV}{g:PX}{n:Nat}(hx:match x,y with|none,none=>True|some v,some p=>EV v p|_,_=>False)(h:Fz d x=some (g,n))(hg:g.den):G7 d y=some n:=by
 cases x with
 | none=>
   cases y with
   |none=>simp only[Fz,Aj,Ak] at h;rw[← h.2];rfl
   |some p=>cases hx
 | some v=>
   cases y with
   |none=>cases hx
   | some p=>
     cases v<;>simp only[Fz,Aj,Ak,reduceCtorEq] at h;obtain⟨rfl,rfl⟩:=h;rw[EV.of hx (by simp)];simp only[DV.enc,G7,RY];exact Ab hg
theorem YY{lo hi:Option DV}{lo' hi':Option PV}{a:DV}{p:PV}{g:PX}{v:DV}(hl:match lo,lo' with|none,none=>True|some v,some p=>EV v p|_,_=>False)(hh:match hi,hi' with|none,none=>True|some v,some p=>EV v p|_,_=>False)(ha:EV a p)(h:Rs lo hi a=some (g,v))(hg:g.den):Lj lo' hi' p=some v.enc:=by
 cases a<;>try (simp only[Rs,reduceCtorEq] at h)
 case str t=>
  rw[ha.of (by simp)]
  cases h1:Fz 0 lo with
  |none=>rw[h1] at h;cases h
  | some x=>
    cases h2:Fz (lN t) hi with
    |none=>rw[h1,h2] at h;cases h
    | some y=>
      obtain⟨g1,a⟩:=x;obtain⟨g2,b⟩:=y;rw[h1,h2] at h;simp only[Aj,Ak] at h;obtain⟨rfl,rfl⟩:=h;rw[land_den,land_den] at hg;have e1:=Nx hl h1 hg.1.1;have e2:=Nx hh h2 hg.1.2;simp only[MF] at e2;simp only[DV.enc,Lj,e1,e2,R4];exact Ab hg.2
theorem Zo{w:Nat}{x:Opnd}{lo hi:Option DV}{lo' hi':Option PV}{a:DV}{p:PV}{g:PX}{v:DV}(hl:match lo,lo' with|none,none=>True|some v,some p=>EV v p|_,_=>False)(hh:match hi,hi' with|none,none=>True|some v,some p=>EV v p|_,_=>False)(ha:EV a p)(h:Sm w x lo hi a=some (g,v))(hg:g.den):LA w x lo' hi' p=some v.enc:=by
 cases a<;>try (simp only[Sm,reduceCtorEq] at h)
 case sl q r t=>
  rw[ha.of (by simp)]
  cases h1:Fz 0 lo with
  |none=>rw[h1] at h;cases h
  | some x1 =>
    cases h2:Fz (lN t) hi with
    |none=>rw[h1,h2] at h;cases h
    | some y=>
      obtain⟨g1,a⟩:=x1;obtain⟨g2,b⟩:=y;rw[h1,h2] at h;simp only at h;by_cases hw:(r.w == w)=true
      · rw[Ab hw] at h
        have hw':r.w=w:=by simpa using hw
        subst hw'
        cases hq:Xu x lo.isNone q with
        |none=>rw[hq] at h;cases h
        | some q'=>
          rw[hq] at h;simp only[Aj,Ak] at h;obtain⟨rfl,rfl⟩:=h;rw[land_den,land_den] at hg;have e1:=Nx hl h1 hg.1.1;have e2:=Nx hh h2 hg.1.2;simp only[MF] at e2
          have hz:Du x (if lo'.isNone=true then 0 else 1) q=some q':=by
           have:lo'.isNone=lo.isNone:=by cases lo<;>cases lo'<;>first|rfl|exact hl.elim
           rw[this];exact hq
          simp only[DV.enc,LA,BE,e1,e2,R4,hz];rw[Ab ⟨hg.2.1,hg.2.2.1,hg.2.2.2,DI r t⟩,List.map_take,List.map_drop];rfl
      · rw[Ae hw] at h;cases h
theorem cO(hd:Hd)(p:List Nat)(v:DV):(SG hd p v).enc=BQ hd p v.enc:=by
 cases v<;>first|rfl|skip
 case nil q=>cases q<;>rfl
 case sl q r l=>cases q<;>rfl
theorem Ls(hd:Hd):∀ (n:Nat) (l:List DV),DV.encL (Gn hd n l)=EA hd n (DV.encL l)
 |_,[]=>rfl
 |n,v::r=>by simp only[Gn,DV.encL,EA,cO,Ls hd (n+1) r]
theorem JQ{n:Option Nat}{cs:List DV}{v:DV}(h:DM n cs=some v):CL n (DV.encL cs)=some v.enc:=by
 cases n with
 |some n=>simp only[DM,Aj] at h;subst h;rfl
 | none=>match cs,h with
   |[x],h=>simp only[DM,Aj] at h;subst h;rfl
theorem Zr{off:Nat}{n:Option Nat}{x:Opnd}{a:DV}{p:PV}{g:PX}{v:DV}(ha:EV a p)(h:Sc off n x a=some (g,v)):LC off n x p=some v.enc:=by
 cases a<;>try (simp only[Sc,reduceCtorEq] at h)
 case agg cs=>
  rw[ha.of (by simp)]
  cases x with
  |c _=>cases h
  | t t =>
    simp only at h;by_cases hc:(Nat.ble (off+n.getD 1) cs.length&&DV.okL (Bf cs off (n.getD 1)))=true
    · rw[Ab hc] at h;rw[Ah] at hc
      cases hv:DM n (Gn (.s t) off (Bf cs off (n.getD 1))) with
      |none=>rw[hv] at h;cases h
      | some w=>
        rw[hv] at h;simp only[BI,Aj,Ak] at h;obtain⟨rfl,rfl⟩:=h;have:=JQ hv;rw[Ls,NV] at this;simp only[DV.enc,LC,Dj];rw[Ab (BS hc.1)];exact this
    · rw[Ae hc] at h;cases h
theorem ZD:∀ {r:RT} {l:List r.D} {s:List UInt8},Pf r l=some s→Bl (l.map (RT.enc r))=some s
 | .one (.int .u8),l,s,h=>by
   simp only[Pf,Aj] at h
   subst h
   refine Eq.trans ?_ (congrArg some (gH l).symm)
   induction l with
   |nil=>rfl
   | cons x l ih=>
     show (Bl (l.map (RT.enc (.one (.int .u8))))).map (fun s=>UInt8.ofNat (Int.toNat x)::s)=_
     rw[ih];rfl
theorem ZU{a:DV}{p:PV}{g:PX}{v:DV}(ha:EV a p)(h:Sv a=some (g,v)):LP p=some v.enc:=by
 cases a<;>try (simp only[Sv,reduceCtorEq] at h)
 case nil q=>
  rw[ha.of (by simp)];simp only[Dz,Aj,Ak] at h;obtain⟨rfl,rfl⟩:=h;rfl
 case sl q r l=>
  rw[ha.of (by simp)]
  cases hs:Pf r l with
  |none=>rw[hs] at h;cases h
  | some s=>
    rw[hs] at h;simp only[BI,Aj,Ak] at h;obtain⟨rfl,rfl⟩:=h;simp only[DV.enc,LP,ZD hs,BI]
theorem Tq:∀ {a b:List DV} {t:BX},HF a b=some t→∃ x y,CQ (DV.encL a)=some x∧CQ (DV.encL b)=some y∧x.length=a.length∧y.length=b.length∧x.all V.flat=true∧y.all V.flat=true∧CH x y=some t.b
 | [],[],t,h=>by
   simp only[HF,Aj] at h;subst h;exact⟨[],[],rfl,rfl,rfl,rfl,rfl,rfl,rfl⟩
 | .int k a::x,.int k' b::y,t,h=>by
   unfold HF at h;by_cases hk:IntKind.same k k'=true
   · rw[Ab hk] at h;have:=OB hk;subst this
     have key:∀ t',HF x y=some t'→t.b=((a == b)&&t'.b)→∃ x1 y1,CQ (DV.encL (.int k a::x))=some x1∧CQ (DV.encL (.int k b::y))=some y1∧x1.length=(DV.int k a::x).length∧y1.length=(DV.int k b::y).length∧x1.all V.flat=true∧y1.all V.flat=true∧CH x1 y1=some t.b:=by
      intro t' ht hb;obtain⟨x1,y1,h1,h2,h3,h4,h5,h6,h7⟩:=Tq ht;refine⟨.int k a::x1,.int k b::y1,?_,?_,by simp[h3],by simp[h4],?_,?_,?_⟩
      · simp only[DV.encL,DV.enc,CQ,h1]
      · simp only[DV.encL,DV.enc,CQ,h2]
      · simp only[D2,V.flat,h5,B8]
      · simp only[D2,V.flat,h6,B8]
      · simp only[CH,Kg,AE]
        cases hab:(a == b) with
        |true=>simp only[h7,hb,hab,Km]
        |false=>simp only[hb,hab,Bool.false_and]
     split at h
     · simp only[Aj] at h;subst h;exact key (.lit true) rfl (by simp only[BX.b,Pq,KE])
     · cases ht:HF x y with
       |none=>rw[ht] at h;cases h
       | some t'=>
         rw[ht] at h;simp only[BI,Aj] at h;subst h;exact key t' ht (by simp only[BX.b,Pq,RL])
   · rw[Ae hk] at h;cases h
theorem aB{n:Nat}{neg:Bool}{a b:DV}{p q:PV}{g:PX}{v:DV}(ha:EV a p)(hb:EV b q)(h:Pz n neg a b=some (g,v)):Mo n neg p q=some v.enc:=by
 cases a<;>try (simp only[Pz,reduceCtorEq] at h)
 case agg a=>
  cases b<;>try (simp only[Pz,reduceCtorEq] at h)
  case agg b=>
   rw[ha.of (by simp),hb.of (by simp)];by_cases hl:(a.length == n&&b.length == n)=true
   · rw[Ab hl] at h;rw[Ah,AD,AD] at hl
     cases ht:HF a b with
     |none=>rw[ht] at h;cases h
     | some t=>
       rw[ht] at h;simp only[Dz,Aj,Ak] at h;obtain⟨rfl,rfl⟩:=h;obtain⟨x,y,h1,h2,h3,h4,h5,h6,h7⟩:=Tq ht;simp only[DV.enc,Mo,h1,h2];rw[Ab ⟨h3.trans hl.1,h4.trans hl.2,h5,h6⟩,h7];cases neg<;>simp only[BI,AE,Ax,AJ,RJ]
   · rw[Ae hl] at h;cases h
theorem Pd{d:DS}{s:PS}(h:ES d s)(x:Option Opnd):match x.map (fun x=>x.dev d.sl),x.map (fun x=>x.pev s.sl) with|none,none=>True|some v,some p=>EV v p|_,_=>False:=by
 cases x with
 |none=>exact trivial
 |some x=>exact x.dev_ev h
theorem C0{s:PS}{o:Option PV}{v:PV}(h:o=some v):B7 s o=some (v,s):=by rw[h];rfl
theorem ZQ{d:DS}{s:PS}{o:AOp}{m:Bool}{g:PX}{v:DV}(hs:ES d s)(h:Kw o (fun x=>x.dev d.sl)=some (g,v))(hg:g.den):AU m o s=some (v.enc,s):=by
 have E:=fun x=>Opnd.dev_ev hs x
 cases o<;>simp only[Kw,reduceCtorEq] at h<;>simp only[AU]
 case nilck x=>exact C0 (Zz (E x) h)
 case bin op x y=>exact C0 (aD (E x) (E y) h hg)
 case eqB neg x y=>exact C0 (aS (E x) (E y) h)
 case eqN neg x y=>
  split at h
  · exact C0 (aU (E x) h)
  · cases h
 case eqA n neg x y=>exact C0 (aB (E x) (E y) h)
 case un op x=>exact C0 (cw (E x) h)
 case conv k x=>exact C0 (ZG (E x) h)
 case bstr x=>exact C0 (ZU (E x) h)
 case slice w x lo hi=>exact C0 (Zo (Pd hs lo) (Pd hs hi) (E x) h hg)
 case substr x lo hi=>exact C0 (YY (Pd hs lo) (Pd hs hi) (E x) h hg)
 case fieldA off a=>exact C0 (Zc (E a) h)
 case field off n x=>exact C0 (Zr (E x) h)
 case indexA w x i=>exact C0 (Ze (E x) (E i) h hg)
 case index x i=>exact C0 (Zp (E x) (E i) h hg)
 case len x=>exact C0 (ax (E x) h)
 case lenT x=>exact C0 (ZL (E x) h)
 case minI x y=>exact C0 (aP (E x) (E y) h)
 case maxI x y=>exact C0 (aO (E x) (E y) h)
theorem QJ:∀ (l:List DV),DV.okL l=true→EL (news (Ky l)) (BV (DV.encL l))
 |[],_=>trivial
 | v::r,h=>by
   simp only[DV.okL,Ah] at h
   refine⟨?_,QJ r h.2⟩
   simp only[GV]
   by_cases ho:v.own=true
   · rw[Ab ho,Ab ho];exact .inl rfl
   · rw[Ae ho,Ae ho];exact .inr rfl
theorem EL.spliceE:∀ {a:List DC} {b:List PV} (n:Nat) {vs:List DV} {ps:List PV},EL a b→EL (Go.Ag.news vs) ps→EL (F3 a n vs) (Aq b n ps)
 |[],[],_,[],[],_,_=>trivial
 |[],[],_,_::_,_::_,_,_=>trivial
 |_::_,_::_,0,[],[],h,_=>h
 |_::_,_::_,_+1,[],[],h,_=>h
 |_::_,_::_,0,_::_,_::_,h,hv=>⟨hv.1,EL.spliceE 0 h.2 hv.2⟩
 |_::_,_::_,n+1,_::_,_::_,h,hv=>⟨h.1,EL.spliceE n h.2 hv⟩
theorem EBx.to{a:List DC}{b:List PV}(h:EBx a b)(hn:0<a.length):EL a b:=by
 rcases h with rfl|h
 · exact absurd hn (Nat.lt_irrefl 0)
 · exact h
theorem EBx.segm{a:List DC}{b:List PV}{o n:Nat}(h:EBx a b)(hl:o+n≤a.length)(hk:DV.okL (Bf (A0 a) o n)=true):o+n≤b.length∧Go.Ag.segm b o n=DV.encL (Bf (A0 a) o n):=by
 rcases h with rfl|h
 · have h0:o=0∧n=0:=by simp only[Br] at hl;omega
   rw[h0.1,h0.2];exact⟨IP _,by cases b<;>rfl⟩
 · exact⟨by rw[← h.len];exact hl,h.segm o n hk⟩
theorem EBx.splice{a:List DC}{b:List PV}{o:Nat}{vs:List DV}{ps:List PV}(h:EBx a b)(hv:EL (news vs) ps)(hl:o+vs.length≤a.length):EBx (F3 a o vs) (Aq b o ps):=by
 rcases h with rfl|h
 · have h0:vs=[]:=by
    cases vs with
    |nil=>rfl
    |cons _ _=>simp only[Bu,Br] at hl;omega
   subst h0;exact .inl rfl
 · exact .inr (h.spliceE o hv)
theorem NW:∀ (l:List DV) (o n:Nat),o+n≤l.length→(Bf l o n).length=n
 |[],0,0,_=>rfl
 |[],0,_+1,h=>by simp only[Br] at h;omega
 |[],_+1,_,h=>by simp only[Br] at h;omega
 |_::_,0,0,_=>rfl
 |_::r,0,n+1,h=>by simp only[Bf,Bu] at h ⊢;rw[NW r 0 n (by omega)]
 |_::r,o+1,n,h=>by simp only[Bf,Bu] at h ⊢;exact NW r o n (by omega)
theorem Qw:∀ (l:List DV),(Ky l).length=l.length
 |[]=>rfl
 |_::r=>by simp only[Ky,Bu,Qw r]
theorem TP{m:Bool}{i:Nat}{n:Option Nat}{a:DV}{p:PV}{d d':DS}{s:PS}{g:PX}{v:DV}(hs:ES d s)(ha:EV a p)(h:I6 m i n a d=some (g,v,d')):∃ s',IL m i n p s=some (v.enc,s')∧ES d' s':=by
 cases a<;>try (simp only[I6,reduceCtorEq] at h)
 case box j o=>
  rw[ha.of (by simp)];by_cases hc:(i == j&&Nat.ble (o+n.getD 1) (A6 d.bx i).length&&DV.okL (Bf (A0 (A6 d.bx i)) o (n.getD 1)))=true
  · rw[Ab hc] at h;rw[Ah,Ah,AD] at hc;obtain⟨⟨rfl,hl⟩,hk⟩:=hc;have hl:=BS hl;obtain⟨h1,h2⟩:=(hs.bx.get i).segm hl hk;simp only[DV.enc,IL];rw[Ab ⟨trivial,h1⟩,h2]
    cases m with
    | true=>
      simp only[AE] at h ⊢
      cases hv:DM n (Bf (A0 (A6 d.bx i)) o (n.getD 1)) with
      |none=>rw[hv] at h;cases h
      | some w=>
        rw[hv] at h;simp only[BI,Aj,Ak] at h;obtain⟨_,rfl,rfl⟩:=h;rw[JQ hv];refine⟨_,rfl,hs.sl.clr _,hs.bx.put i ((hs.bx.get i).splice (QJ _ hk) ?_),hs.hp⟩;rw[Qw,NW _ _ _ (by rw[Lo];exact hl)];exact hl
    | false=>
      simp only[Ax,AJ] at h ⊢
      cases hv:DM n (Gn (.b i) o (Bf (A0 (A6 d.bx i)) o (n.getD 1))) with
      |none=>rw[hv] at h;cases h
      | some w=>
        rw[hv] at h;simp only[BI,Aj,Ak] at h;obtain⟨_,rfl,rfl⟩:=h;have:=JQ hv;rw[Ls] at this;rw[this];exact⟨_,rfl,hs⟩
  · rw[Ae hc] at h;cases h
theorem WJ{q q':Ql}(h:KF q=some q'):∀ (t:CT) (x:t.D),(CT.dv q' t x).enc=Hj q (CT.enc t x)
 |.int _,_|.bool,_|.str,_=>by cases q<;>rfl
 |.ifc,_=>by cases q<;>rfl
 |.sl r,l=>by cases q<;>simp only[KF,Aj,reduceCtorEq] at h<;>subst h<;>rfl
theorem WO{q q':Ql}(h:KF q=some q'):∀ (r:RT) (x:r.D),DV.encL (r.dv q' x)=DR q (RT.enc r x)
 |.one t,x=>by simp only[RT.dv,DV.encL,RT.enc,DR,WJ h t x]
 |.cons t r,x=>by simp only[RT.dv,DV.encL,RT.enc,DR,WJ h t x.1,WO h r x.2]
theorem F4(r:RT):∀ (l:List r.D) (j:Nat),j<l.length→Az (l.map (RT.enc r)) j=RT.enc r (l.getD j r.dflt)
 |_::_,0,_=>rfl
 |_::l,j+1,h=>F4 r l j (by simpa using h)
theorem QB(q:Ql):∀ (l:List PV) (o n:Nat),DR q (Go.Ag.segm l o n)=Go.Ag.segm (DR q l) o n
 |[],0,0=>rfl
 |[],0,_+1=>rfl
 |[],_+1,_=>rfl
 |_::_,0,0=>rfl
 |c::r,0,n+1=>by simp only[Go.Ag.segm,DR,QB q r 0 n]
 |_::r,o+1,n=>by simp only[Go.Ag.segm,DR];exact QB q r o n
theorem ay{q q':Ql}(h:KF q=some q'):q.isOwn=false:=by cases q<;>first|rfl|cases h
theorem TJ{m:Bool}{n:Option Nat}{a:DV}{p:PV}{d d':DS}{s:PS}{g:PX}{v:DV}(hs:ES d s)(ha:EV a p)(h:HR m n a d=some (g,v,d'))(hg:g.den):∃ s',HJ m n p s=some (v.enc,s')∧ES d' s':=by
 cases a<;>try (simp only[HR,reduceCtorEq] at h)
 case ep q r l j o=>
  rw[ha.of (by simp)]
  cases hq:KF q with
  |none=>rw[hq] at h;cases h
  | some q'=>
    rw[hq] at h;simp only at h;by_cases hc:Nat.ble (o+n.getD 1) r.w=true
    · rw[Ab hc] at h
      cases hv:DM n (Bf (r.dv q' (lGet l j r.dflt)) o (n.getD 1)) with
      |none=>rw[hv] at h;cases h
      | some w=>
        rw[hv] at h;simp only[BI,Aj,Ak] at h;obtain⟨rfl,rfl,rfl⟩:=h;have hj:j<l.length:=hg;have:=JQ hv;rw[NV,WO hq,← QB,Ki,← F4 r l j hj] at this;simp only[DV.enc,HJ,BE];rw[Ab ⟨hj,by rw[F4 r l j hj,L7];exact BS hc,ay hq⟩,this];exact⟨_,rfl,hs⟩
    · rw[Ae hc] at h;cases h
 case ptr i o=>
  rw[ha.of (by simp)];by_cases hc:(Nat.blt i d.hp.length&&Nat.ble (o+n.getD 1) (A6 d.hp i).length&&DV.okL (Bf (A0 (A6 d.hp i)) o (n.getD 1)))=true
  · rw[Ab hc] at h;rw[Ah,Ah] at hc;obtain⟨⟨hi,hl⟩,hk⟩:=hc;have hi:=BS hi;have hl:=BS hl;obtain⟨h1,h2⟩:=(hs.hp.get i).segm hl hk;simp only[DV.enc,HJ];rw[Ab ⟨by rw[← hs.hp.len];exact hi,h1⟩,h2]
    cases m with
    | true=>
      simp only[AE] at h ⊢
      cases hv:DM n (Bf (A0 (A6 d.hp i)) o (n.getD 1)) with
      |none=>rw[hv] at h;cases h
      | some w=>
        rw[hv] at h;simp only[BI,Aj,Ak] at h;obtain⟨_,rfl,rfl⟩:=h;rw[JQ hv];refine⟨_,rfl,hs.sl.clr _,hs.bx,hs.hp.put i ((hs.hp.get i).splice (QJ _ hk) ?_)⟩;rw[Qw,NW _ _ _ (by rw[Lo];exact hl)];exact hl
    | false=>
      simp only[Ax,AJ] at h ⊢
      cases hv:DM n (Gn (.h i) o (Bf (A0 (A6 d.hp i)) o (n.getD 1))) with
      |none=>rw[hv] at h;cases h
      | some w=>
        rw[hv] at h;simp only[BI,Aj,Ak] at h;obtain⟨_,rfl,rfl⟩:=h;have:=JQ hv;rw[Ls] at this;rw[this];exact⟨_,rfl,hs⟩
  · rw[Ae hc] at h;cases h
theorem EL.clrD(hd:Hd):∀ {a:List DC} {b:List PV},EL a b→EL (Cm hd a) b
 |[],[],_=>trivial
 | c::_,p::_,h=>by
   refine⟨?_,EL.clrD hd h.2⟩
   by_cases hb:c.v.bor hd=true
   · rw[Ab hb];exact .inl rfl
   · rw[Ae hb];exact h.1
theorem EL.clr2{hd:Hd}{a:List DC}{b:List PV}{x:Bool}{y:Bool}(h:EL a b)(hxy:x=false→y=false):EL (if x then Cm hd a else a) (if y then Go.Ag.clr hd b else b):=by
 cases x with
 |false=>rw[hxy rfl];exact h
 | true=>cases y with
   |false=>exact h.clrD hd
   |true=>exact h.clr hd
theorem YW{i n:Nat}{a x:Opnd}{d d':DS}{s:PS}{g:PX}{v:DV}(hs:ES d s)(h:LN i n a x d=some (g,v,d')):∃ s',Ll i n a x s=some (v.enc,s')∧ES d' s':=by
 unfold LN at h;have ha:=a.dev_ev hs;generalize hm:AK x d=w at h;obtain⟨w,d1⟩:=w;simp only at h;generalize a.dev d.sl=av at h ha
 cases av<;>try (simp only[reduceCtorEq] at h)
 case box j o=>
  by_cases hc:(i == j&&Nat.blt i d1.bx.length&&w.cells.length == n&&Nat.ble (o+n) (A6 d1.bx i).length&&Ch w.cells)=true
  · rw[Ab hc] at h;simp only[Ah,AD] at hc;obtain⟨⟨⟨⟨rfl,hi⟩,rfl⟩,hl⟩,hcl⟩:=hc;have hi:=BS hi;have hl:=BS hl;have hok:=Ln w hcl;obtain⟨m1,m2⟩:=Di x hs (by rw[hm];exact hok);rw[hm] at m1 m2;simp only[Aj,Ak] at h;obtain⟨rfl,rfl,rfl⟩:=h;have hbx:=m2.bx.get i
    have hel:o+w.cells.length≤(Am (mvOut x s).2.bx i).length:=by
     rcases hbx with he|he
     · rw[he] at hl;simp only[Br] at hl;omega
     · rw[← he.len];exact hl
    simp only[Ll,ha.of (by simp:DV.box i o≠.any),DV.enc,m1,GR,Dj,GV];rw[Ab ⟨trivial,by rw[← m2.bx.len];exact hi,trivial,hel,IC _ hcl⟩];refine⟨_,rfl,m2.sl.clr2 fun hx=>?_,m2.bx.put i (hbx.splice (EL.news w.cells) hl),m2.hp⟩;simp only[Cj,CZ] at hx ⊢;rw[(hbx.segm hl hx.1.1).2,J0];exact⟨hx.1.2,hx.2⟩
  · rw[Ae hc] at h;cases h
theorem Oh{r' r:RT}{l:List r'.D}{m:List r.D}(h:I7 l=some m):r'=r∧l.map (RT.enc r')=m.map (RT.enc r):=by
 unfold I7 at h;split at h
 · rename_i hb;have hr:=RT.beq_eq hb;subst hr;simp only[Aj] at h;subst h;exact⟨rfl,rfl⟩
 · cases h
theorem W5:∀ {t:CT} {v:DV} {x:t.D},t.of v=some x→v.enc=CT.enc t x
 | .int k,.int k' n,x,h=>by
   have h':(if k=k' then some n else none)=some x:=h
   by_cases hk:k=k'
   · subst hk
     rw[Ab rfl] at h'
     have:n=x:=BT h'
     rw[← this];rfl
   · rw[Ae hk] at h';cases h'
 | .bool,.bool b,x,h=>by
   have:b.b=x:=BT h
   rw[← this];rfl
 | .str,.str s,x,h=>by
   have:s=x:=BT h
   rw[← this];rfl
 | .ifc,.ifc b,x,h=>by
   have:b=x:=BT h
   rw[← this];rfl
 | .sl r,.nil .own,x,h=>by
   have:([]:List r.D)=x:=BT h
   rw[← this];rfl
 | .sl r,.sl .own r' l,x,h=>by
   show PV.sl .own _=PV.sl .own _
   rw[(Oh (r:=r) h).2]
theorem Kv:∀ {r:RT} {vs:List DV} {x:r.D},r.of vs=some x→DV.encL vs=RT.enc r x
 |.one t,[v],x,h=>by simp only[DV.encL,RT.enc,W5 (t:=t) h]
 | .cons t r,v::vs,x,h=>by
   have h':(match t.of v,r.of vs with|some x,some y=>some (x,y)|_,_=>none)=some x:=h
   clear h
   cases h1:t.of v with
   |none=>rw[h1] at h';cases h'
   | some a=>
     cases h2:r.of vs with
     |none=>rw[h1,h2] at h';cases h'
     | some b=>
       rw[h1,h2] at h'
       have:(a,b)=x:=BT h'
       rw[← this]
       simp only[DV.encL,RT.enc,W5 h1,Kv h2]
theorem Wt:∀ (t:CT) (x:t.D),(CT.dv .own t x).enc=CT.enc t x
 |.int _,_|.bool,_|.str,_|.ifc,_|.sl _,_=>rfl
theorem OP:∀ (r:RT) (x:r.D),DV.encL (r.dv .own x)=RT.enc r x
 |.one t,x=>by simp only[RT.dv,DV.encL,RT.enc,Wt t x]
 |.cons t r,x=>by simp only[RT.dv,DV.encL,RT.enc,Wt t x.1,OP r x.2]
theorem Of(r:RT):∀ (l:List r.D) (j:Nat) (y:r.D),AM (l.map (RT.enc r)) j (RT.enc r y)=(l.set j y).map (RT.enc r)
 |[],_,_=>rfl
 |_::_,0,_=>rfl
 |_::l,j+1,y=>by simp only[BG,AM,List.set_cons_succ,Of r l j y]
theorem cj(v:DV)(p:List Nat)(h:v.fcell p≠.any):v.enc.fcell p=(v.fcell p).enc:=by
 cases v with
 | agg cs=>
   match p with
   |[]=>exact absurd rfl h
   |[c]=>exact(J1 cs c).symm
   |_::_::_=>exact absurd rfl h
 | tup vs=>
   match p with
   |[]=>exact absurd rfl h
   |[_]=>exact absurd rfl h
   | [i,c]=>
     show Aa (Aa (DV.encL vs) i).cells c=(EF (EF vs i).cells c).enc;rw[← J1,GR,← J1]
   |_::_::_::_=>exact absurd rfl h
 |any=>match p with|[]=>exact absurd rfl h|[0]=>exact absurd rfl h|[_+1]=>exact absurd rfl h|0::_::_=>exact absurd rfl h|(_+1)::_::_=>exact absurd rfl h
 |undef=>match p with|[]=>exact absurd rfl h|[0]=>rfl|[_+1]=>exact absurd rfl h|0::_::_=>exact absurd rfl h|(_+1)::_::_=>exact absurd rfl h
 |bool _=>match p with|[]=>exact absurd rfl h|[0]=>rfl|[_+1]=>exact absurd rfl h|0::_::_=>exact absurd rfl h|(_+1)::_::_=>exact absurd rfl h
 |int _ _=>match p with|[]=>exact absurd rfl h|[0]=>rfl|[_+1]=>exact absurd rfl h|0::_::_=>exact absurd rfl h|(_+1)::_::_=>exact absurd rfl h
 |str _=>match p with|[]=>exact absurd rfl h|[0]=>rfl|[_+1]=>exact absurd rfl h|0::_::_=>exact absurd rfl h|(_+1)::_::_=>exact absurd rfl h
 |ifc _=>match p with|[]=>exact absurd rfl h|[0]=>rfl|[_+1]=>exact absurd rfl h|0::_::_=>exact absurd rfl h|(_+1)::_::_=>exact absurd rfl h
 |nil _=>match p with|[]=>exact absurd rfl h|[0]=>rfl|[_+1]=>exact absurd rfl h|0::_::_=>exact absurd rfl h|(_+1)::_::_=>exact absurd rfl h
 |sl _ _ _=>match p with|[]=>exact absurd rfl h|[0]=>rfl|[_+1]=>exact absurd rfl h|0::_::_=>exact absurd rfl h|(_+1)::_::_=>exact absurd rfl h
 |ep _ _ _ _ _=>match p with|[]=>exact absurd rfl h|[0]=>rfl|[_+1]=>exact absurd rfl h|0::_::_=>exact absurd rfl h|(_+1)::_::_=>exact absurd rfl h
 |box _ _=>match p with|[]=>exact absurd rfl h|[0]=>rfl|[_+1]=>exact absurd rfl h|0::_::_=>exact absurd rfl h|(_+1)::_::_=>exact absurd rfl h
 |ptr _ _=>match p with|[]=>exact absurd rfl h|[0]=>rfl|[_+1]=>exact absurd rfl h|0::_::_=>exact absurd rfl h|(_+1)::_::_=>exact absurd rfl h
theorem Fo{d:DS}{s:PS}(hs:ES d s)(hd:Hd)(p:List Nat)(h:Bm d hd p≠.any):BZ s hd p=(Bm d hd p).enc:=by
 cases hd with
 | s t=>
   rcases hs.sl.get t with hg|hg
   · simp only[Bm,hg] at h;refine absurd ?_ h
     match p with
     |[]=>rfl
     |[0]=>rfl
     |[_+1]=>rfl
     |0::_::_=>rfl
     |(_+1)::_::_=>rfl
   · simp only[Bm,BZ,hg] at h ⊢;exact cj _ p h
 | b i=>
   match p with
   |[]=>exact absurd rfl h
   |_::_::_=>exact absurd rfl h
   | [c]=>
     rcases hs.bx.get i with hb|hb
     · simp only[Bm,hb,AR] at h;exact absurd rfl h
     · exact(hb.get c).of h
 | h i=>
   match p with
   |[]=>exact absurd rfl h
   |_::_::_=>exact absurd rfl h
   | [c]=>
     rcases hs.hp.get i with hb|hb
     · simp only[Bm,hb,AR] at h;exact absurd rfl h
     · exact(hb.get c).of h
 |x i=>exact absurd rfl h
theorem dZ(v:DV)(p:List Nat)(w:DV):v.enc.setc p w.enc=(v.setc p w).enc:=by
 cases v with
 | agg cs=>
   match p with
   |[]=>rfl
   |[c]=>exact congrArg PV.agg (Oj cs c w).symm
   |_::_::_=>rfl
 | tup vs=>
   match p with
   |[]=>rfl
   |[0]=>rfl
   |[_+1]=>rfl
   |0::_::_=>rfl
   |(_+1)::_::_=>rfl
 |any=>match p with|[]=>rfl|[0]=>rfl|[_+1]=>rfl|0::_::_=>rfl|(_+1)::_::_=>rfl
 |undef=>match p with|[]=>rfl|[0]=>rfl|[_+1]=>rfl|0::_::_=>rfl|(_+1)::_::_=>rfl
 |bool _=>match p with|[]=>rfl|[0]=>rfl|[_+1]=>rfl|0::_::_=>rfl|(_+1)::_::_=>rfl
 |int _ _=>match p with|[]=>rfl|[0]=>rfl|[_+1]=>rfl|0::_::_=>rfl|(_+1)::_::_=>rfl
 |str _=>match p with|[]=>rfl|[0]=>rfl|[_+1]=>rfl|0::_::_=>rfl|(_+1)::_::_=>rfl
 |ifc _=>match p with|[]=>rfl|[0]=>rfl|[_+1]=>rfl|0::_::_=>rfl|(_+1)::_::_=>rfl
 |nil _=>match p with|[]=>rfl|[0]=>rfl|[_+1]=>rfl|0::_::_=>rfl|(_+1)::_::_=>rfl
 |sl _ _ _=>match p with|[]=>rfl|[0]=>rfl|[_+1]=>rfl|0::_::_=>rfl|(_+1)::_::_=>rfl
 |ep _ _ _ _ _=>match p with|[]=>rfl|[0]=>rfl|[_+1]=>rfl|0::_::_=>rfl|(_+1)::_::_=>rfl
 |box _ _=>match p with|[]=>rfl|[0]=>rfl|[_+1]=>rfl|0::_::_=>rfl|(_+1)::_::_=>rfl
 |ptr _ _=>match p with|[]=>rfl|[0]=>rfl|[_+1]=>rfl|0::_::_=>rfl|(_+1)::_::_=>rfl
theorem EBx.put{a:List DC}{b:List PV}{v:DV}{p:PV}(n:Nat)(h:EBx a b)(hv:EV v p):EBx (Cl a n v) (A9 b n p):=by
 rcases h with rfl|h
 · exact .inl rfl
 · exact .inr (h.put n hv)
theorem Ix{d:DS}{s:PS}(hs:ES d s)(hd:Hd)(p:List Nat)(w:DV)(h:Bm d hd p≠.any):ES (Eu d w hd p) (setK s w.enc hd p):=by
 cases hd with
 | s t=>
   refine⟨(hs.sl.put t (.inr ?_)).clr _,hs.bx,hs.hp⟩;rcases hs.sl.get t with hg|hg
   · simp only[Bm,hg] at h;refine absurd ?_ h
     match p with
     |[]=>rfl
     |[0]=>rfl
     |[_+1]=>rfl
     |0::_::_=>rfl
     |(_+1)::_::_=>rfl
   · rw[hg];exact dZ _ p w
 | b i=>
   match p with
   |[]=>exact absurd rfl h
   |_::_::_=>exact absurd rfl h
   |[c]=>exact⟨hs.sl.clr _,hs.bx.put i ((hs.bx.get i).put c (.inr rfl)),hs.hp⟩
 | h i=>
   match p with
   |[]=>exact absurd rfl h
   |_::_::_=>exact absurd rfl h
   |[c]=>exact⟨hs.sl.clr _,hs.bx,hs.hp.put i ((hs.hp.get i).put c (.inr rfl))⟩
 |x i=>exact absurd rfl h
theorem Y6{n:Nat}{a x:Opnd}{d d':DS}{s:PS}{g:PX}{v:DV}(hs:ES d s)(h:Ly n a x d=some (g,v,d'))(hg:g.den):∃ s',Li n a x s=some (v.enc,s')∧ES d' s':=by
 unfold Ly at h;generalize hm:AK x d=w at h;obtain⟨w,d1⟩:=w;simp only at h
 have hw:Ch w.cells=true→ES d1 (mvOut x s).2∧(mvOut x s).1=w.enc:=fun hcl=>by
  obtain⟨m1,m2⟩:=Di x hs (by rw[hm];exact Ln w hcl);rw[hm] at m1 m2;exact⟨m2,m1⟩
 split at h
 · rename_i i o ha;by_cases hc:(Nat.blt i d1.hp.length&&w.cells.length == n&&Nat.ble (o+n) (A6 d1.hp i).length&&Ch w.cells)=true
   · rw[Ab hc] at h;simp only[Ah,AD] at hc;obtain⟨⟨⟨hi,rfl⟩,hl⟩,hcl⟩:=hc;have hi:=BS hi;have hl:=BS hl;obtain⟨m2,m1⟩:=hw hcl;have ha':=a.dev_ev m2;rw[ha] at ha';simp only[Aj,Ak] at h;obtain⟨rfl,rfl,rfl⟩:=h;have hbx:=m2.hp.get i
     have hel:o+w.cells.length≤(Am (mvOut x s).2.hp i).length:=by
      rcases hbx with he|he
      · rw[he] at hl;simp only[Br] at hl;omega
      · rw[← he.len];exact hl
     simp only[Li,ha'.of (by simp:DV.ptr i o≠.any),DV.enc,m1,GR,Dj,GV];rw[Ab ⟨by rw[← m2.hp.len];exact hi,trivial,hel,IC _ hcl⟩];refine⟨_,rfl,m2.sl.clr2 fun hx=>?_,m2.bx,m2.hp.put i (hbx.splice (EL.news w.cells) hl)⟩;simp only[Cj,CZ] at hx ⊢;rw[(hbx.segm hl hx.1.1).2,J0];exact⟨hx.1.2,hx.2⟩
   · rw[Ae hc] at h;cases h
 · rename_i hd p r0 l0 j o ha
   cases hk:Bm d1 hd [p]<;>rw[hk] at h<;>try (cases h;done)
   rename_i q r l
   cases q<;>try (cases h;done)
   simp only at h;by_cases hc:(w.cells.length == n&&Nat.ble (o+n) r.w&&Ch w.cells)=true
   · rw[Ab hc] at h;simp only[Ah,AD] at hc;obtain⟨⟨rfl,hl⟩,hcl⟩:=hc;have hl:=BS hl
     cases hof:r.of (F5 (r.dv .own (lGet l j r.dflt)) o w.cells) with
     |none=>rw[hof] at h;cases h
     | some y=>
       rw[hof] at h;simp only[Aj,Ak] at h;obtain⟨rfl,rfl,rfl⟩:=h;obtain⟨m2,m1⟩:=hw hcl;have ha':=a.dev_ev m2;rw[ha] at ha'
       have hne:Bm d1 hd [p]≠.any:=by rw[hk];simp
       have hj:j<l.length:=hg;have e1:=Fo m2 hd [p] hne;rw[hk] at e1;have e2:=Kv hof;rw[K7,OP,Ki,← F4 r l j hj] at e2;have e3:=Ix m2 hd [p] (.sl .own r (lSet l j y)) hne;simp only[Li,ha'.of (by simp:DV.ep (.bor hd [p] true) r0 l0 j o≠.any),DV.enc,m1,GR,Dj,e1,BE];rw[Ab ⟨hj,trivial,by rw[F4 r l j hj,L7];exact hl,IC _ hcl⟩,e2,Of];simp only[DV.enc,LX] at e3;exact⟨_,rfl,by rw[LX];exact e3⟩
   · rw[Ae hc] at h;cases h
 · cases h
theorem TV{m:Bool}{n:Option Nat}{a:DV}{p:PV}{d d':DS}{s:PS}{r:C3}{g:PX}{v:DV}(hs:ES d s)(ha:EV a p)(h:F6 m n a d=some r)(hr:r=some (g,v,d'))(hg:g.den):E8 m n p s=some (some v.enc)∧d'=d:=by
 unfold F6 at h;split at h
 · rename_i hd c r1 l j;simp only[Aj] at h;rw[hr] at h;split at h
   · rename_i r2 l2 hk;simp only[Aj,Ak] at h;obtain⟨rfl,rfl,rfl⟩:=h;obtain⟨g1,g2⟩:=hg
     have hne:Bm d hd [c]≠.any:=by rw[hk];simp
     have e1:=Fo hs hd [c] hne;rw[hk] at e1;have e2:Az (List.map (RT.enc (.one (.sl r1))) l) j=[PV.sl .own (List.map (RT.enc r1) (List.getD (α:=List r1.D) l j []))]:=F4 (.one (.sl r1)) l j g1;have e3:Az (List.map (RT.enc (.one (.sl r2))) l2) j=[PV.sl .own (List.map (RT.enc r2) (List.getD (α:=List r2.D) l2 j []))]:=F4 (.one (.sl r2)) l2 j g2;refine⟨?_,rfl⟩;rw[ha.of (by simp)];simp only[DV.enc,E8,e1,BE];rw[e2,Ab g2,e3];rw[show lGet (α:=List r2.D) l2 j []=List.getD (α:=List r2.D) l2 j [] from Ki l2 j []]
   · cases h
 · cases h
theorem aX{m:Bool}{n:Option Nat}{a:DV}{p:PV}{d:DS}{s:PS}(ha:EV a p)(hne:a≠.any)(h:F6 m n a d=none):E8 m n p s=none:=by
 unfold E8;split
 · rename_i hd c es j;have hp:=ha.of hne;cases a<;>simp only[DV.enc,PV.ep.injEq,reduceCtorEq] at hp;rename_i q r l j' o;obtain⟨rfl,rfl,rfl,rfl⟩:=hp;split
   · rename_i x he;rcases Be j l.length with hj|hj
     · rw[F4 r l j hj] at he
       cases r with
       | one t=>
         cases t with
         |sl r1=>simp[F6] at h
         |_=>simp only[RT.enc,CT.enc,FD,reduceCtorEq,false_and] at he
       |cons t r=>cases r<;>simp[RT.enc] at he
     · have hz:Az (l.map (RT.enc r)) j=[]:=by rw[IW,A4 (by simpa using hj)];rfl
       rw[hz] at he;cases he
   · rfl
 · rfl
theorem bu{i c:Nat}{a:DV}{p:PV}(ha:EV a p)(hx:a.nestX i c=true):p.nestX i c=true:=by
 rw[ha.of (fun e=>by rw[e] at hx;cases hx)];unfold DV.nestX at hx;split at hx
 · exact hx
 · cases hx
theorem dV{a:DV}{p:PV}(ha:EV a p)(hne:a≠.any):p.nest=a.nest:=by
 rw[ha.of hne]
 cases a<;>try rfl
 rename_i q r l j o
 cases q<;>try rfl
 rename_i hd pt tp
 match pt,tp with
 |[],_=>cases tp<;>rfl
 |[_],_=>cases tp<;>rfl
 |[_,_],true=>rfl
 |[_,_],false=>rfl
 |_::_::_::_,_=>cases tp<;>rfl
theorem UE:∀ {vs:List DV},I2 vs=true→Ck (DV.encL vs)=true
 |[],_=>rfl
 | v::r,h=>by
   simp only[I2,Ah] at h
   simp only[DV.encL,Ck,Ah]
   refine⟨?_,UE h.2⟩
   cases v<;>first|rfl|cases h.1
theorem cx{v:DV}(h:I2 v.cells=true):v≠.any:=by
 rintro rfl;simp[DV.cells,I2,DV.nflat] at h
theorem Y7{n:Nat}{hd:Hd}{p k j o:Nat}{w:DV}{pw:PV}{d d':DS}{s:PS}{g:PX}{v:DV}(hs:ES d s)(hw:EV w pw)(h:LD n hd p k j o w d=some (g,v,d'))(hg:g.den):∃ s',Lq n hd p k j o pw s=some (v.enc,s')∧ES d' s':=by
 unfold LD at h;split at h
 · rename_i r l hk;by_cases hc:(w.cells.length == n&&Nat.ble (o+n) r.w&&I2 w.cells)=true
   · rw[Ab hc] at h;simp only[Ah,AD] at hc;obtain⟨⟨rfl,hl⟩,hf⟩:=hc;have hl:=BS hl
     cases hof:r.of (F5 (r.dv .own (lGet (lGet (α:=List r.D) l k []) j r.dflt)) o w.cells) with
     |none=>rw[hof] at h;cases h
     | some y=>
       rw[hof] at h;simp only[Aj,Ak] at h;obtain⟨rfl,rfl,rfl⟩:=h;obtain⟨g1,g2⟩:=hg
       have hne:Bm d hd [p]≠.any:=by rw[hk];simp
       have e1:=Fo hs hd [p] hne;rw[hk] at e1;have hL:lGet (α:=List r.D) l k []=List.getD (α:=List r.D) l k []:=Ki (α:=List r.D) l k [];rw[hL] at g2 hof;have g2':j<List.length (α:=r.D) (List.getD (α:=List r.D) l k []):=g2;have e4:=F4 r (List.getD (α:=List r.D) l k []) j g2';have e5:=Kv hof;rw[K7,OP,Ki] at e5;have e6:AM (List.map (RT.enc r) (List.getD (α:=List r.D) l k [])) j (RT.enc r y)=List.map (RT.enc r) (List.set (α:=r.D) (List.getD (α:=List r.D) l k []) j y):=Of r _ j y;have e7:AM (List.map (RT.enc (.one (.sl r))) l) k [PV.sl .own (List.map (RT.enc r) (List.set (α:=r.D) (List.getD (α:=List r.D) l k []) j y))]=List.map (RT.enc (.one (.sl r))) (List.set (α:=List r.D) l k (List.set (α:=r.D) (List.getD (α:=List r.D) l k []) j y)):=Of (.one (.sl r)) l k (List.set (α:=r.D) (List.getD (α:=List r.D) l k []) j y);have e3:=Ix hs hd [p] (.sl .own (.one (.sl r)) (lSet (α:=List r.D) l k (lSet (lGet (α:=List r.D) l k []) j y))) hne
       have hS:lSet (α:=List r.D) l k (lSet (lGet (α:=List r.D) l k []) j y)=List.set (α:=List r.D) l k (List.set (α:=r.D) (List.getD (α:=List r.D) l k []) j y):=by
        rw[hL];exact(LX (α:=List r.D) l k _).trans (congrArg (fun z=>List.set (α:=List r.D) l k z) (LX (α:=r.D) _ j y))
       rw[hw.of (cx hf)];have e1':BZ s hd [p]= .sl .own (List.map (RT.enc (.one (.sl r))) l):=e1;have e2':Az (List.map (RT.enc (.one (.sl r))) l) k=[.sl .own (List.map (RT.enc r) (List.getD (α:=List r.D) l k []))]:=F4 (.one (.sl r)) l k g1;have e5':Aq (RT.enc r (List.getD (α:=r.D) (List.getD (α:=List r.D) l k []) j r.dflt)) o (DV.encL w.cells)=RT.enc r y:=e5;unfold Lq;rw[e1'];simp only[BE];rw[Ab g1,e2'];simp only[BE,GR,Dj];rw[Ab ⟨g2',trivial,by rw[e4,L7];exact hl,UE hf⟩,e4,e5',e6,e7];refine⟨_,rfl,?_⟩;rw[hS] at e3 ⊢;exact e3
   · rw[Ae hc] at h;cases h
 · cases h
theorem dk(hd:Hd)(v:DV)(h:v≠.any):(SJ hd v).enc=FM hd v.enc:=by
 cases v<;>first|rfl|exact absurd rfl h|skip
 case nil q=>cases q<;>rfl
 case sl q r l=>cases q<;>rfl
 case agg cs=>show PV.agg _=PV.agg _;rw[Ls]
 case tup vs=>
  simp only[SJ,DV.enc,FM,J0];split<;>rfl
theorem ZX{d:DS}{s:PS}(x:Opnd)(h:ES d s)(hk:(G1 x d).1.ok=true):(H9 x s).1=(G1 x d).1.enc∧ES (G1 x d).2 (H9 x s).2:=by
 cases x with
 | c v=>
   refine⟨?_,h⟩;refine(Ol v fun he=>?_).symm;simp only[G1,he,DV.ok,Ax] at hk
 | t n=>
   simp only[G1] at hk
   have hn:AR d.sl n≠.any:=by intro e;rw[e] at hk;cases hk
   simp only[G1,H9];rw[(h.sl.get n).of hn,dk _ _ hn];exact⟨rfl,h⟩
theorem FX:∀ (l:List V),E1 l=true→l.all V.flat=true∧DV.encL (EH l)=l.map AW∧Ch (EH l)=true
 |[],_=>⟨rfl,rfl,rfl⟩
 | v::r,h=>by
   simp only[E1,Ah] at h;obtain⟨h1,h2,h3⟩:=FX r h.2
   have hv:(Gx v).cell=true∧(Gx v).enc=AW v:=by cases v<;>first|exact⟨rfl,rfl⟩|(have:=h.1;cases this)
   refine⟨by simp only[D2,h.1,h1,B8],?_,?_⟩
   · simp only[EH,DV.encL,BG,h2,hv.2]
   · simp only[EH,Ch,hv.1,h3,B8]
theorem Qa:∀ (ps:List (Nat×Nat×Opnd)) {cs cs':List DV} {d d':DS} {s:PS},ES d s→Gh cs ps d=some (cs',d')→∃ s',CY (DV.encL cs) ps s=some (DV.encL cs',s')∧ES d' s'
 | [],cs,cs',d,d',s,hs,h=>by
   simp only[Gh,Aj,Ak] at h
   obtain⟨rfl,rfl⟩:=h
   exact⟨s,rfl,hs⟩
 | (off,size,x)::r,cs,cs',d,d',s,hs,h=>by
   unfold Gh at h
   by_cases hc:((AK x d).1.cells.length == size&&Nat.ble (off+size) cs.length&&Ch (AK x d).1.cells)=true
   · rw[Ab hc] at h
     simp only[Ah,AD] at hc
     obtain⟨⟨h1,h2⟩,h3⟩:=hc
     obtain⟨m1,m2⟩:=Di x hs (Ln _ h3)
     obtain⟨s',e1,e2⟩:=Qa r m2 h
     refine⟨s',?_,e2⟩
     unfold CY
     rw[m1,GR,Dj,Dj,Ab ⟨h1,BS h2,IC _ h3⟩,← K7]
     exact e1
   · rw[Ae hc] at h;cases h
theorem UL:∀ (n:Nat) (l:List DV),DV.encL (l.take n)=(DV.encL l).take n
 |0,_=>rfl
 |_+1,[]=>rfl
 |n+1,_::r=>by simp only[List.take_succ_cons,DV.encL,UL n r]
theorem U5:∀ (n:Nat) (l:List DV),DV.encL (l.drop n)=(DV.encL l).drop n
 |0,_=>rfl
 |_+1,[]=>rfl
 |n+1,_::r=>by simp only[List.drop_succ_cons,DV.encL,U5 n r]
theorem Tz(r:RT)(w:Nat):∀ (n:Nat) (cs:List DV) (l:List r.D),J6 r w n cs=some l→CW w n (DV.encL cs)=l.map (RT.enc r)
 | 0,cs,l,h=>by
   simp only[J6,Aj] at h;subst h;rfl
 | n + 1,cs,l,h=>by
   unfold J6 at h
   cases h1:r.of (cs.take w) with
   |none=>rw[h1] at h;cases h
   | some x=>
     cases h2:J6 r w n (cs.drop w) with
     |none=>rw[h1,h2] at h;cases h
     | some y=>
       rw[h1,h2] at h
       have:=BT h
       subst this
       simp only[CW,BG,← UL,← U5,Kv h1,Tz r w n _ y h2]
def DSrc.es:DSrc→List (List PV)
 |.nil=>[]
 |.sl r l=>l.map (RT.enc r)
theorem Mw{r:RT}{x:DSrc}{l:List r.D}(h:x.to r=some l):x.es=l.map (RT.enc r):=by
 cases x with
 |nil=>have:=BT h;subst this;rfl
 |sl r' l'=>exact(Oh h).2
theorem V2:∀ (t:CT) (x:t.D),t.flat=true→(CT.enc t x).flatc=true
 |.int _,_,_|.bool,_,_|.str,_,_|.ifc,_,_=>rfl
theorem V9:∀ (r:RT) (x:r.D),r.flat=true→Ck (RT.enc r x)=true
 |.one t,x,h=>by simp only[RT.enc,Ck,V2 t x h,B8]
 | .cons t r,x,h=>by
   simp only[RT.flat,Ah] at h
   simp only[RT.enc,Ck,V2 t x.1 h.1,V9 r x.2 h.2,B8]
theorem VQ(r:RT)(h:r.flat=true):∀ (l:List r.D),Gi (l.map (RT.enc r))=true
 |[]=>rfl
 |x::l=>by simp only[BG,Gi,V9 r x h,VQ r h l,B8]
theorem fw{w:Nat}{x:DSrc}(h:x.w w=true):BN w x.es=true:=by
 cases x with
 |nil=>rfl
 | sl r l=>
   have:r.w=w:=by simpa [DSrc.w] using h
   subst this;exact DI r l
theorem mv_ok{d:DS}{x:Opnd}(v:DV)(hx:x.dev d.sl=v)(ho:v.own=true)(hb:∀ hd,v.bor hd=false)(hk:v.ok=true):(AK x d).1=v:=by
 cases x with
 |c c=>exact hx
 | t n=>
   have hx':AR d.sl n=v:=hx;simp only[AK,MI,hx',ho,hb,AE,Ax,AJ]
theorem Qh{w:Nat}{y:Opnd}{d d':DS}{s:PS}{new:DSrc}(hs:ES d s)(h:Gq w y d=some (new,d')):∃ s',Dr w y s=some (new.es,s')∧ES d' s':=by
 have hy:=y.dev_ev hs;unfold Gq at h;unfold Dr
 cases hv:y.dev d.sl with
 | str t=>
   rw[hv] at h hy;simp only at h;by_cases hw:(w == 1)=true
   · rw[Ab hw] at h;simp only[Aj,Ak] at h;obtain⟨rfl,rfl⟩:=h;rw[hy.of (by simp)];simp only[DV.enc];rw[Ab (by simpa using hw)];refine⟨s,?_,hs⟩
     have:(DSrc.sl (.one (.int .u8)) (sRow t)).es=t.map fun b=>[PV.fl (.int .u8 b.toNat)]:=by
      unfold DSrc.es;rw[gq];clear hy hv
      induction t with
      |nil=>rfl
      |cons b t ih=>exact congrArg (List.cons _) ih
     rw[this]
   · rw[Ae hw] at h;cases h
 | nil q=>
   rw[hv] at h hy;have hp:=hy.of (by simp)
   cases q with
   | own=>
     simp only[Aj,Ak] at h;obtain⟨rfl,rfl⟩:=h;have hk:=mv_ok (.nil .own) hv rfl (fun _=>rfl) rfl;obtain⟨m1,m2⟩:=Di y hs (by rw[hk];rfl);rw[hp];exact⟨_,rfl,m2⟩
   | frz=>
     simp only[Aj,Ak] at h;obtain⟨rfl,rfl⟩:=h;rw[hp];exact⟨s,rfl,hs⟩
   | ownw w'=>
     simp only[Aj,Ak] at h;obtain⟨rfl,rfl⟩:=h;rw[hp];exact⟨s,rfl,hs⟩
   | bor a b c=>
     simp only[Aj,Ak] at h;obtain⟨rfl,rfl⟩:=h;rw[hp];exact⟨s,rfl,hs⟩
   | pre a b=>
     simp only[Aj,Ak] at h;obtain⟨rfl,rfl⟩:=h;rw[hp];exact⟨s,rfl,hs⟩
 | sl q r l=>
   rw[hv] at h hy;have hp:=hy.of (by simp)
   have key:(if (r.w == w&&r.flat)=true then some (DSrc.sl r l,d) else none)=some (new,d')→BN w (l.map (RT.enc r))=true∧Gi (l.map (RT.enc r))=true∧new.es=l.map (RT.enc r)∧d'=d:=fun h=>by
    by_cases hw:(r.w == w&&r.flat)=true
    · rw[Ab hw] at h;simp only[Ah,AD] at hw;simp only[Aj,Ak] at h;obtain⟨rfl,rfl⟩:=h;exact⟨hw.1▸DI r l,VQ r hw.2 l,rfl,rfl⟩
    · rw[Ae hw] at h;cases h
   rw[hp]
   cases q with
   | own=>
     simp only at h;by_cases hw:(r.w == w)=true
     · rw[Ab hw] at h;simp only[Aj,Ak] at h;obtain⟨rfl,rfl⟩:=h;have hk:=mv_ok (.sl .own r l) hv rfl (fun _=>rfl) rfl;obtain⟨m1,m2⟩:=Di y hs (by rw[hk];rfl)
       have hw':r.w=w:=by simpa using hw
       simp only[DV.enc];rw[Ab (hw'▸DI r l)];exact⟨_,rfl,m2⟩
     · rw[Ae hw] at h;cases h
   |ownw w'=>cases h
   |frz=>obtain⟨k1,k2,k3,rfl⟩:=key h;simp only[DV.enc];rw[Ab ⟨k1,k2⟩,k3];exact⟨s,rfl,hs⟩
   |bor a b c=>obtain⟨k1,k2,k3,rfl⟩:=key h;simp only[DV.enc];rw[Ab ⟨k1,k2⟩,k3];exact⟨s,rfl,hs⟩
   |pre a b=>obtain⟨k1,k2,k3,rfl⟩:=key h;simp only[DV.enc];rw[Ab ⟨k1,k2⟩,k3];exact⟨s,rfl,hs⟩
 |_=>rw[hv] at h;cases h
theorem IQ{x:DSrc}{r:RT}{l:List r.D}(h:x.to r=some l):x.es.length=l.length:=by rw[Mw h,BE]
theorem Ui{w:Nat}{x:Opnd}{new:DSrc}{d d':DS}{s:PS}{g:PX}{v:DV}(hs:ES d s)(h:KH w x new d=some (g,v,d'))(hg:g.den):∃ s',FH w x new.es s=some (v.enc,s')∧ES d' s':=by
 have hx:=x.dev_ev hs;unfold KH at h;by_cases h0:(Nat.blt 0 w&&new.w w)=true
 · simp only [h0,Bool.not_true,Ax,AJ] at h;simp only[Ah] at h0;have hw0:0<w:=BS h0.1;unfold FH
   cases hv:x.dev d.sl with
   | nil q =>
     rw[hv] at h hx;rw[hx.of (by simp)]
     cases q with
     | own=>
       have hk:=mv_ok (.nil .own) hv rfl (fun _=>rfl) rfl;obtain⟨m1,m2⟩:=Di x hs (by rw[hk];rfl)
       cases new with
       | nil=>
         simp only[Aj,Ak] at h;obtain⟨rfl,rfl,rfl⟩:=h;simp only[DV.enc,DSrc.es,Br,DN,HZ,Ma];rw[Ab ⟨hw0,rfl,IP _⟩];exact⟨_,rfl,m2⟩
       | sl r l=>
         simp only[Aj,Ak] at h;obtain⟨rfl,rfl,rfl⟩:=h;simp only[DV.enc,DSrc.es,Br,Bn,BE,Cg];rw[Ab ⟨hw0,rfl,hg⟩];exact⟨_,rfl,m2⟩
     | bor hd p t=>
       cases t with
       | false=>cases p with
         |nil=>cases h
         |cons c p=>cases p<;>cases h
       | true=>
         match p,h with
         | [c],h=>
           simp only at h ⊢
           cases hk:Bm d hd [c]<;>rw[hk] at h<;>try (cases h;done)
           rename_i q
           cases q<;>try (cases h;done)
           have hne:Bm d hd [c]≠.any:=by rw[hk];simp
           have e1:=Fo hs hd [c] hne;rw[hk] at e1;have e3:=Ix hs hd [c] .undef hne
           cases new with
           | nil=>
             simp only[Aj,Ak] at h;obtain⟨rfl,rfl,rfl⟩:=h;simp only[DV.enc,e1,DSrc.es,Br,DN,HZ,Ma];rw[Ab ⟨hw0,rfl,trivial,IP _⟩];exact⟨_,rfl,e3⟩
           | sl r l=>
             simp only[Aj,Ak] at h;obtain⟨rfl,rfl,rfl⟩:=h;simp only[DV.enc,e1,DSrc.es,Br,Bn,BE,Cg];rw[Ab ⟨hw0,rfl,trivial,hg⟩];exact⟨_,rfl,e3⟩
         |[],h=>cases h
         |_::_::_,h=>cases h
     |_=>cases h
   | sl q r l=>
     rw[hv] at h hx;rw[hx.of (by simp)]
     cases q with
     | own =>
       simp only at h;by_cases hw:(r.w == w)=true
       · rw[Ab hw] at h
         have hw':r.w=w:=by simpa using hw
         cases ht:new.to r with
         |none=>rw[ht] at h;cases h
         | some n=>
           rw[ht] at h;simp only[Aj,Ak] at h;obtain⟨rfl,rfl,rfl⟩:=h;have hk:=mv_ok (.sl .own r l) hv rfl (fun _=>rfl) rfl;obtain⟨m1,m2⟩:=Di x hs (by rw[hk];rfl);simp only[DV.enc,BE,IQ ht];rw[Ab ⟨hw0,hw'▸DI r l,hg⟩,Mw ht];refine⟨_,?_,m2⟩;simp only[IX,Fx]
       · rw[Ae hw] at h;cases h
     | bor hd p t=>
       cases t with
       | false=>cases p with
         |nil=>cases h
         |cons c p=>cases p<;>cases h
       | true=>
         match p,h with
         | [c],h=>
           simp only at h ⊢
           cases hk:Bm d hd [c]<;>rw[hk] at h<;>try (cases h;done)
           rename_i q rh lh
           cases q<;>try (cases h;done)
           simp only at h;by_cases hw:(rh.w == w)=true
           · rw[Ab hw] at h
             have hw':rh.w=w:=by simpa using hw
             cases ht:new.to rh with
             |none=>rw[ht] at h;cases h
             | some n=>
               rw[ht] at h;simp only[Aj,Ak] at h;obtain⟨rfl,rfl,rfl⟩:=h
               have hne:Bm d hd [c]≠.any:=by rw[hk];simp
               have e1:=Fo hs hd [c] hne;rw[hk] at e1;have e3:=Ix hs hd [c] .undef hne;simp only[DV.enc,e1,BE,IQ ht];rw[Ab ⟨hw0,hw'▸DI rh lh,hg.1,hg.2⟩,Mw ht];refine⟨_,?_,e3⟩;simp only[IX,Fx,DV.enc]
           · rw[Ae hw] at h;cases h
         |[],h=>cases h
         |_::_::_,h=>cases h
     | pre hd p=>
      match p,h with
      | [c],h=>
        simp only at h ⊢
        cases hk:Bm d hd [c]<;>rw[hk] at h<;>try (cases h;done)
        rename_i q rh lh
        cases q<;>try (cases h;done)
        simp only at h;by_cases hw:(rh.w == w)=true
        · rw[Ab hw] at h
          have hw':rh.w=w:=by simpa using hw
          cases ht:new.to rh with
          |none=>rw[ht] at h;cases h
          | some n=>
            rw[ht] at h;simp only[Aj,Ak] at h;obtain⟨rfl,rfl,rfl⟩:=h
            have hne:Bm d hd [c]≠.any:=by rw[hk];simp
            have e1:=Fo hs hd [c] hne;rw[hk] at e1;have e3:=Ix hs hd [c] .undef hne;simp only[DV.enc,e1,BE,IQ ht];rw[Ab ⟨hw0,hw'▸DI rh lh,hg.1,hg.2.1,hg.2.2.2⟩,Mw ht,Ae (Nat.ne_of_gt hg.2.2.1)];refine⟨_,?_,e3⟩;simp only[IX,Re,MF,Fx,List.map_take,DV.enc]
        · rw[Ae hw] at h;cases h
      |[],h=>cases h
      |_::_::_,h=>cases h
     |_=>cases h
   |_=>rw[hv] at h;cases h
 · simp only[h0] at h;cases h
theorem UK{zs:List V}(h:E1 zs=true):EL (news (EH zs)) (zs.map AW):=by rw[← (FX zs h).2.1];exact EL.news _
theorem EB.append{c:List DC}{p:List PV}:∀ {a:List (List DC)} {b:List (List PV)},EB a b→EBx c p→EB (a++[c]) (b++[p])
 |[],[],_,h=>⟨h,trivial⟩
 |_::_,_::_,h,h'=>⟨h.1,EB.append h.2 h'⟩
theorem Zj(r:RT)(x:r.D)(n:Nat):(List.replicate n x).map (RT.enc r)=List.replicate n (RT.enc r x):=by simp
theorem TX{m:Bool}{o:AOp}{ty:Option RT}{d d':DS}{s:PS}{g:PX}{v:DV}(hs:ES d s)(h:AY m o ty d=some (g,v,d'))(hg:g.den):∃ s',AU m o s=some (v.enc,s')∧ES d' s':=by
 have E:=fun x=>Opnd.dev_ev hs x
 have pure:(Kw o (fun x=>x.dev d.sl)).map (fun r=>(r.1,r.2,d))=some (g,v,d')→∃ s',AU m o s=some (v.enc,s')∧ES d' s':=fun h=>by
  cases hp:Kw o (fun x=>x.dev d.sl) with
  |none=>rw[hp] at h;cases h
  | some r=>
    obtain⟨g1,v1⟩:=r;rw[hp] at h;simp only[BI,Aj,Ak] at h;obtain⟨rfl,rfl,rfl⟩:=h;exact⟨s,ZQ hs hp hg,hs⟩
 cases o<;>first|exact pure h|skip
 case mv x=>
  cases m with
  | false=>
    simp only[AY,Ax,AJ] at h;by_cases hk:(AK x d).1.ok=true
    · rw[Ab hk] at h;simp only[Aj,Ak] at h;obtain⟨rfl,rfl,rfl⟩:=h;obtain⟨m1,m2⟩:=Di x hs hk;exact⟨_,by simp only[AU,Ax,AJ,← m1],m2⟩
    · rw[Ae hk] at h;cases h
  | true=>
    simp only[AY,AE] at h;by_cases hk:(G1 x d).1.ok=true
    · rw[Ab hk] at h;simp only[Aj,Ak] at h;obtain⟨rfl,rfl,rfl⟩:=h;obtain⟨m1,m2⟩:=ZX x hs hk;exact⟨_,by simp only[AU,AE,← m1],m2⟩
    · rw[Ae hk] at h;cases h
 case loadB i n a=>exact TP hs (E a) h
 case loadH n a=>
  simp only[AY] at h
  cases hn:F6 m n (a.dev d.sl) d with
  | none=>
    rw[hn] at h;obtain⟨s',h1,h2⟩:=TJ hs (E a) h hg;refine⟨s',?_,h2⟩
    have hne:a.dev d.sl≠.any:=by
     intro e;simp only[e,HR] at h;cases h
    simp only[AU,aX (s:=s) (E a) hne hn];exact h1
  | some r=>
    rw[hn] at h;obtain⟨h1,rfl⟩:=TV hs (E a) hn h hg;exact⟨s,by simp only[AU,h1];rfl,hs⟩
 case loadX i c n a=>
  simp only[AY] at h;split at h
  · rename_i hx
    cases hn:F6 m n (a.dev d.sl) d with
    |none=>rw[hn] at h;cases h
    | some r=>
      rw[hn] at h;obtain⟨h1,rfl⟩:=TV hs (E a) hn h hg;exact⟨s,by simp only[AU,bu (E a) hx,AE,h1];rfl,hs⟩
  · cases h
 case storeB i n a x=>exact YW hs h
 case storeH n a x=>
  simp only[AY] at h;split at h
  · rename_i hok;have hn:=dV (E a) (fun e=>by rw[e] at hok;cases hok);split at h
    · rename_i hd p k j o hm;obtain⟨s',h1,h2⟩:=Y7 hs (E x) h hg;exact⟨s',by simp only[AU,hn,hm];exact h1,h2⟩
    · rename_i hm;obtain⟨s',h1,h2⟩:=Y6 hs h hg;exact⟨s',by simp only[AU,hn,hm];exact h1,h2⟩
  · cases h
 case appN w x y=>
  simp only[AY] at h;split at h
  · rename_i hx
    cases h1:Gq w y d with
    |none=>rw[h1] at h;cases h
    | some r=>
      obtain⟨new,d1⟩:=r;rw[h1] at h;obtain⟨s1,e1,e2⟩:=Qh hs h1;obtain⟨s2,e3,e4⟩:=Ui e2 h hg;have ex:=(E x).of (by rw[hx];simp);rw[hx] at ex;exact⟨s2,by simp only[AU,ex,DV.enc,e1];exact e3,e4⟩
  · cases h
 case app w x y=>
  simp only[AY] at h
  cases h1:Gq w y d with
  |none=>rw[h1] at h;cases h
  | some r=>
    obtain⟨new,d1⟩:=r;rw[h1] at h;obtain⟨s1,e1,e2⟩:=Qh hs h1;obtain⟨s2,e3,e4⟩:=Ui e2 h hg;exact⟨s2,by simp only[AU,e1];exact e3,e4⟩
 case allocB i zs=>
  simp only[AY] at h;by_cases hc:(Nat.blt i d.bx.length&&E1 zs)=true
  · rw[Ab hc] at h;simp only[Ah] at hc;simp only[Aj,Ak] at h;obtain⟨rfl,rfl,rfl⟩:=h;simp only[AU];rw[Ab ⟨by rw[← hs.bx.len];exact BS hc.1,(FX zs hc.2).1⟩];exact⟨_,rfl,(hs.sl.clearBox i).clr _,hs.bx.put i (.inr (UK hc.2)),hs.hp⟩
  · rw[Ae hc] at h;cases h
 case boxB i n x=>
  simp only[AY] at h;by_cases hc:(Nat.blt i (AK x d).2.bx.length&&(AK x d).1.cells.length == n&&Ch (AK x d).1.cells)=true
  · rw[Ab hc] at h;simp only[Ah,AD] at hc;obtain⟨⟨h1,rfl⟩,h3⟩:=hc;obtain⟨m1,m2⟩:=Di x hs (Ln _ h3);simp only[Aj,Ak] at h;obtain⟨rfl,rfl,rfl⟩:=h;simp only[AU,m1,GR,Dj];rw[Ab ⟨by rw[← m2.bx.len];exact BS h1,trivial,IC _ h3⟩];exact⟨_,rfl,(m2.sl.clearBox i).clr _,m2.bx.put i (.inr (EL.news _)),m2.hp⟩
  · rw[Ae hc] at h;cases h
 case allocH zs=>
  simp only[AY] at h;by_cases hc:E1 zs=true
  · rw[Ab hc] at h;simp only[Aj,Ak] at h;obtain⟨rfl,rfl,rfl⟩:=h;simp only[AU];rw[Ab (FX zs hc).1,← hs.hp.len];exact⟨_,rfl,hs.sl.clr _,hs.bx,hs.hp.append (.inr (UK hc))⟩
  · rw[Ae hc] at h;cases h
 case boxH n x=>
  simp only[AY] at h;by_cases hc:((AK x d).1.cells.length == n&&Ch (AK x d).1.cells)=true
  · rw[Ab hc] at h;simp only[Ah,AD] at hc;obtain⟨rfl,h3⟩:=hc;obtain⟨m1,m2⟩:=Di x hs (Ln _ h3);simp only[Aj,Ak] at h;obtain⟨rfl,rfl,rfl⟩:=h;simp only[AU,m1,GR,Dj];rw[Ab ⟨trivial,IC _ h3⟩,← m2.hp.len];exact⟨_,rfl,m2.sl.clr _,m2.bx,m2.hp.append (.inr (EL.news _))⟩
  · rw[Ae hc] at h;cases h
 case build zs ps=>
  simp only[AY] at h;by_cases hc:E1 zs=true
  · rw[Ab hc] at h
    cases hf:Gh (EH zs) ps d with
    |none=>rw[hf] at h;cases h
    | some r=>
      obtain⟨cs,d1⟩:=r;rw[hf] at h;simp only[Aj,Ak] at h;obtain⟨rfl,rfl,rfl⟩:=h;obtain⟨s',e1,e2⟩:=Qa ps hs hf;rw[(FX zs hc).2.1] at e1;simp only[AU];rw[Ab (FX zs hc).1,e1];exact⟨s',rfl,e2⟩
  · rw[Ae hc] at h;cases h
 case mkSlice w z len=>
  simp only[AY] at h
  cases he:len.dev d.sl with
  | int k n=>
    rw[he] at h
    cases k<;>try (cases h)
    simp only at h;split at h
    · rename_i r hr;split at h
      · rename_i x hx;split at h
        · rename_i hc;simp only[Ah,AD] at hc;obtain⟨⟨⟨h1,h2⟩,h3⟩,h4⟩:=hc;simp only[Aj,Ak] at h;obtain⟨rfl,rfl,rfl⟩:=h;have hp:=E len;rw[he] at hp;simp only[AU,hp.of (by simp),DV.enc];rw[Ab ⟨hg.1,h1,BS h3,(FX z h4).1,hg.2⟩];refine⟨s,?_,hs⟩;rw[WN];rw[Zj,← Kv hx,(FX z h4).2.1]
        · cases h
      · cases h
    · cases h
  |_=>rw[he] at h;cases h
 case litSlice w n zs ps=>
  simp only[AY] at h;by_cases hn:(n == 0)=true
  · rw[Ab hn] at h;simp only[Aj,Ak] at h;obtain⟨rfl,rfl,rfl⟩:=h;simp only[AU];rw[Ab (by simpa using hn)];refine⟨s,?_,hs⟩;cases ty<;>rfl
  · rw[Ae hn] at h;split at h
    · rename_i hc;simp only[Ah,AD] at hc;obtain⟨⟨h1,h2⟩,h3⟩:=hc;split at h
      · rename_i cs d1 hf;split at h
        · rename_i r hr;split at h
          · split at h
            · rename_i l hl;simp only[Aj,Ak] at h;obtain⟨rfl,rfl,rfl⟩:=h;obtain⟨s',e1,e2⟩:=Qa ps hs hf;rw[(FX zs h1).2.1] at e1;simp only[AU];rw[Ae (by simpa using hn),Ab ⟨(FX zs h1).1,h2,BS h3⟩,e1];refine⟨s',?_,e2⟩;simp only[BI,DV.enc,Tz r w n cs l hl]
            · cases h
          · cases h
        · cases h
      · cases h
    · cases h
 case extract x i=>
  simp only[AY] at h
  cases x with
  |c v=>cases h
  | t t =>
    simp only at h;have ht:EV (AR d.sl t) (Aa s.sl t):=hs.sl.get t
    cases hv:AR d.sl t with
    | tup vs=>
      rw[hv] at h ht;simp only at h;have hp:Aa s.sl t= .tup (DV.encL vs):=ht.of (by simp);split at h
      · rename_i hc;simp only[Ah] at hc;simp only[AU,hp];rw[Dj,Ab (show i<vs.length from BS hc.1),← J1,GV,Ou];split at h
        · rename_i ho;rw[Ab ho];split at h
          · cases h
          · rename_i hb;rw[Ae hb];simp only[Aj,Ak] at h;obtain⟨rfl,rfl,rfl⟩:=h;refine⟨_,rfl,?_,hs.bx,hs.hp⟩;refine(EL.put t hs.sl (.inr ?_)).clr _;show PV.tup _=PV.tup _;rw[Oj];rfl
        · rename_i ho;rw[Ae ho];simp only[Aj,Ak] at h;obtain⟨rfl,rfl,rfl⟩:=h;exact⟨_,rfl,hs⟩
      · cases h
    |_=>rw[hv] at h;cases h
theorem Rr{w:Nat}{new:DSrc}{r:RT}{n:List r.D}(h:new.to r=some n)(l:List r.D)(hw:r.w=w):l.map (RT.enc r)++new.es=(l++n).map (RT.enc r)∧BN w (l.map (RT.enc r)++new.es)=true:=by
 have:l.map (RT.enc r)++new.es=(l++n).map (RT.enc r):=by rw[Mw h,Fx]
 exact⟨this,by rw[this];exact hw▸DI r (l++n)⟩
theorem OK{w:Nat}{es:List (List PV)}(h:BN w es=true):De [(0,w)] (.sl .own es)=some (.sl (.ownw w) es):=by
 show DW w (.sl .own es)=_;simp only[DW];rw[Ab h]
theorem eF{w:Nat}{es:List (List PV)}:De [(0,w)] (.sl (.ownw w) es)=some (.sl (.ownw w) es):=by
 show DW w (.sl (.ownw w) es)=_;simp only[DW,AE]
theorem LQ{w:Nat}{es:List (List PV)}{c:Prop} [Decidable c](h:BN w es=true):De [(0,w)] (.sl (if c then .ownw w else .own) es)=some (.sl (.ownw w) es):=by
 split
 · exact eF
 · exact OK h
theorem Z9{w:Nat}{x:Opnd}{new:DSrc}{d d':DS}{s:PS}{g:PX}{v:DV}(hs:ES d s)(h:Me w x new d=some (g,v,d'))(hg:g.den):∃ s' v0,FH w x new.es s=some (v0,s')∧De [(0,w)] v0=some v.enc∧ES d' s':=by
 have hx:=x.dev_ev hs;unfold Me at h;by_cases h0:(Nat.blt 0 w&&new.w w)=true
 · simp only [h0,Bool.not_true,Ax,AJ] at h;simp only[Ah] at h0;have hw0:0<w:=BS h0.1;have haw:=fw h0.2;unfold FH
   cases hv:x.dev d.sl with
   | nil q =>
     rw[hv] at h hx;rw[hx.of (by simp)]
     cases q with
     | own=>
       have hk:=mv_ok (.nil .own) hv rfl (fun _=>rfl) rfl;obtain⟨m1,m2⟩:=Di x hs (by rw[hk];rfl);simp only[DV.enc,Br,Bn,Cg]
       cases new with
       | nil=>
         simp only[Ia,Aj,Ak] at h;obtain⟨rfl,rfl,rfl⟩:=h;rw[Ab ⟨hw0,rfl,by simp[DSrc.es,Bo]⟩];exact⟨_,_,rfl,OK haw,m2⟩
       | sl r l=>
         simp only[Ia,Aj,Ak] at h;obtain⟨rfl,rfl,rfl⟩:=h;rw[Ab ⟨hw0,rfl,by simpa [DSrc.es,PX.den] using hg⟩];exact⟨_,_,rfl,OK haw,m2⟩
     | ownw w'=>
       simp only at h;by_cases hw':(w' == w)=true
       · rw[Ab hw'] at h
         have hw':w'=w:=by simpa using hw'
         subst hw';have hk:=mv_ok (.nil (.ownw w')) hv rfl (fun _=>rfl) rfl;obtain⟨m1,m2⟩:=Di x hs (by rw[hk];rfl);simp only[DV.enc,Br,Bn,Cg]
         cases new with
         | nil=>
           simp only[Ia,Aj,Ak] at h;obtain⟨rfl,rfl,rfl⟩:=h;rw[Ab ⟨hw0,trivial,rfl,by simp[DSrc.es,Bo]⟩];exact⟨_,_,rfl,LQ haw,m2⟩
         | sl r l=>
           simp only[Ia,Aj,Ak] at h;obtain⟨rfl,rfl,rfl⟩:=h;rw[Ab ⟨hw0,trivial,rfl,by simpa [DSrc.es,PX.den] using hg⟩];exact⟨_,_,rfl,LQ haw,m2⟩
       · rw[Ae hw'] at h;cases h
     |_=>cases h
   | sl q r l=>
     rw[hv] at h hx;rw[hx.of (by simp)]
     cases q with
     | own =>
       simp only at h;by_cases hw:(r.w == w)=true
       · rw[Ab hw] at h
         have hw':r.w=w:=by simpa using hw
         cases ht:new.to r with
         |none=>rw[ht] at h;cases h
         | some n=>
           rw[ht] at h;simp only[Aj,Ak] at h;obtain⟨rfl,rfl,rfl⟩:=h;have hk:=mv_ok (.sl .own r l) hv rfl (fun _=>rfl) rfl;obtain⟨m1,m2⟩:=Di x hs (by rw[hk];rfl);obtain⟨a1,a2⟩:=Rr ht l hw';simp only[DV.enc,BE,IQ ht];rw[Ab ⟨hw0,hw'▸DI r l,hg⟩];exact⟨_,_,rfl,by rw[OK a2,a1];simp only[IX],m2⟩
       · rw[Ae hw] at h;cases h
     | ownw w'=>
       simp only at h;by_cases hw:(w' == w&&r.w == w)=true
       · rw[Ab hw] at h;simp only[Ah,AD] at hw;obtain⟨rfl,hw'⟩:=hw
         cases ht:new.to r with
         |none=>rw[ht] at h;cases h
         | some n=>
           rw[ht] at h;simp only[Aj,Ak] at h;obtain⟨rfl,rfl,rfl⟩:=h;have hk:=mv_ok (.sl (.ownw w') r l) hv rfl (fun _=>rfl) rfl;obtain⟨m1,m2⟩:=Di x hs (by rw[hk];rfl);obtain⟨a1,a2⟩:=Rr ht l hw';simp only[DV.enc,BE,IQ ht];rw[Ab ⟨hw0,trivial,hw'▸DI r l,hg⟩];exact⟨_,_,rfl,by rw[LQ a2,a1];simp only[IX],m2⟩
       · rw[Ae hw] at h;cases h
     | pre hd p=>
      match p,h with
      | [c],h=>
        simp only at h ⊢
        cases hk:Bm d hd [c]<;>rw[hk] at h<;>try (cases h;done)
        rename_i q rh lh
        have hne:Bm d hd [c]≠.any:=by rw[hk];simp
        have e1:=Fo hs hd [c] hne;rw[hk] at e1;have e3:=Ix hs hd [c] .undef hne
        have tk:∀ {n:List rh.D},new.to rh=some n→rh.w=w→(lh.map (RT.enc rh)).take l.length++new.es=(lApp (lTake lh (lN l)) n).map (RT.enc rh)∧BN w ((lh.map (RT.enc rh)).take l.length++new.es)=true:=by
         intro n ht hw';have:=Rr ht (lh.take l.length) hw';rw[List.map_take] at this;simp only[IX,Re,MF];exact this
        cases q<;>try (cases h;done)
        case own=>
         simp only at h;by_cases hw:(rh.w == w)=true
         · rw[Ab hw] at h
           have hw':rh.w=w:=by simpa using hw
           cases ht:new.to rh with
           |none=>rw[ht] at h;cases h
           | some n=>
             rw[ht] at h;simp only[Aj,Ak] at h;obtain⟨rfl,rfl,rfl⟩:=h;obtain⟨a1,a2⟩:=tk ht hw';simp only[DV.enc,e1,BE,IQ ht];rw[Ab ⟨hw0,hw'▸DI rh lh,hg.1,hg.2.1,hg.2.2⟩];exact⟨_,_,rfl,by rw[LQ a2,a1],e3⟩
         · rw[Ae hw] at h;cases h
        case ownw w'=>
         simp only at h;by_cases hw:(w' == w&&rh.w == w)=true
         · rw[Ab hw] at h;simp only[Ah,AD] at hw;obtain⟨rfl,hw'⟩:=hw
           cases ht:new.to rh with
           |none=>rw[ht] at h;cases h
           | some n=>
             rw[ht] at h;simp only[Aj,Ak] at h;obtain⟨rfl,rfl,rfl⟩:=h;obtain⟨a1,a2⟩:=tk ht hw';simp only[DV.enc,e1,BE,IQ ht];rw[Ab ⟨hw0,trivial,hw'▸DI rh lh,hg.1,hg.2.1,hg.2.2⟩];exact⟨_,_,rfl,by rw[LQ a2,a1],e3⟩
         · rw[Ae hw] at h;cases h
      |[],h=>cases h
      |_::_::_,h=>cases h
     |_=>cases h
   |_=>rw[hv] at h;cases h
 · simp only[h0] at h;cases h
theorem Ss{w:Nat}{v v':DV}(h:MA w v=some v'):DW w v.enc=some v'.enc:=by
 unfold MA at h;split at h
 · cases h;rfl
 · split at h
   · rename_i hw;have hw:=AD.mp hw;subst hw;cases h;simp only[DV.enc,DW,AE]
   · cases h
 · rename_i r l;split at h
   · rename_i hw;have hw:=AD.mp hw;cases h;simp only[DV.enc,DW];rw[Ab (hw▸DI r l)]
   · cases h
 · split at h
   · rename_i hw;have hw:=AD.mp hw;subst hw;cases h;simp only[DV.enc,DW,AE]
   · cases h
 · cases h
theorem WC:∀ (ws:List (Nat×Nat)) {l l':List DV},Pv ws l=some l'→Jl ws (DV.encL l)=some (DV.encL l')
 |[],l,l',h=>by cases h;rfl
 | (c,w)::r,l,l',h=>by
   unfold Pv at h
   split at h
   · rename_i v hv
     unfold Jl
     rw[← J1,Ss hv]
     simp only
     rw[← Oj]
     exact WC r h
   · cases h
theorem gI{ws:List (Nat×Nat)}{v v':DV}(h:Jk ws v=some v'):De ws v.enc=some v'.enc:=by
 unfold Jk at h;split at h
 · simp only[Bb] at h;obtain⟨l',h1,rfl⟩:=h;show (Jl ws _).map PV.agg=_;rw[WC ws h1];rfl
 · rename_i q;split at h
   · exact Ss (v:=.nil q) h
   · cases h
 · rename_i q r l;split at h
   · exact Ss (v:=.sl q r l) h
   · cases h
 · cases h
theorem Zq{ws:List (Nat×Nat)}{m:Bool}{o:AOp}{ty:Option RT}{d d':DS}{s:PS}{g:PX}{v:DV}(hs:ES d s)(h:I0 ws m o ty d=some (g,v,d'))(hg:g.den):∃ s' v0,AU m o s=some (v0,s')∧De ws v0=some v.enc∧ES d' s':=by
 have gen:(match AY m o ty d with|some (g,v,st)=>(match Jk ws v with|some v=>some (g,v,st)|none=>none)|none=>none)=some (g,v,d')→∃ s' v0,AU m o s=some (v0,s')∧De ws v0=some v.enc∧ES d' s':=by
  intro h
  cases h1:AY m o ty d with
  |none=>rw[h1] at h;cases h
  | some r=>
    obtain⟨g1,v1,d1⟩:=r;rw[h1] at h;simp only at h
    cases h2:Jk ws v1 with
    |none=>rw[h2] at h;cases h
    | some v2=>
      rw[h2] at h;simp only[Aj,Ak] at h;obtain⟨rfl,rfl,rfl⟩:=h;obtain⟨s',e1,e2⟩:=TX hs h1 hg;exact⟨s',_,e1,gI h2,e2⟩
 cases o<;>first|exact gen h|skip
 case app w x y=>
  simp only[I0] at h;split at h
  · rename_i w';split at h
    · rename_i hw;have hw:=AD.mp hw;subst hw
      cases h1:Gq w' y d with
      |none=>rw[h1] at h;cases h
      | some r=>
        obtain⟨new,d1⟩:=r;rw[h1] at h;obtain⟨s1,e1,e2⟩:=Qh hs h1;obtain⟨s2,v0,e3,e4,e5⟩:=Z9 e2 h hg;exact⟨s2,v0,by simp only[AU,e1];exact e3,e4,e5⟩
    · cases h
  · cases h
def Chg:List DC→List DC→Prop
 |_,[]=>True
 |[],c::r=>c.d=true∧Chg [] r
 |b::a,c::r=>(c.d=true∨c=b)∧Chg a r
def ChgB:List (List DC)→List (List DC)→Prop
 |_,[]=>True
 |[],c::r=>Chg [] c∧ChgB [] r
 |b::a,c::r=>Chg b c∧ChgB a r
structure ChgS (x y:DS):Prop where
 sl:Chg x.sl y.sl
 bx:ChgB x.bx y.bx
 hp:ChgB x.hp y.hp
theorem Chg.refl:∀ (x:List DC),Chg x x
 |[]=>trivial
 |_::r=>⟨.inr rfl,Chg.refl r⟩
theorem Chg.trans:∀ {x y z:List DC},Chg x y→Chg y z→Chg x z
 |_,_,[],_,_=>by cases ‹List DC›<;>trivial
 |[],[],_::_,_,h=>h
 |_::a,[],c::r,_,h=>⟨.inl h.1,Chg.trans (x:=a) (y:=[]) (by cases a<;>trivial) h.2⟩
 | [],b::a,c::r,h,h'=>by
   refine⟨?_,Chg.trans h.2 h'.2⟩
   rcases h'.1 with h1|h1
   · exact h1
   · rw[h1];exact h.1
 | e::x,b::a,c::r,h,h'=>by
   refine⟨?_,Chg.trans h.2 h'.2⟩
   rcases h'.1 with h1|h1
   · exact .inl h1
   · rw[h1];exact h.1
theorem ChgB.refl:∀ (x:List (List DC)),ChgB x x
 |[]=>trivial
 |b::r=>⟨Chg.refl b,ChgB.refl r⟩
theorem ChgB.trans:∀ {x y z:List (List DC)},ChgB x y→ChgB y z→ChgB x z
 |_,_,[],_,_=>by cases ‹List (List DC)›<;>trivial
 |[],[],_::_,_,h=>h
 |b::a,[],c::r,_,h=>⟨Chg.trans (y:=[]) (by trivial) h.1,ChgB.trans (x:=a) (y:=[]) (by cases a<;>trivial) h.2⟩
 |[],b::a,c::r,h,h'=>⟨h.1.trans h'.1,ChgB.trans h.2 h'.2⟩
 |e::x,b::a,c::r,h,h'=>⟨h.1.trans h'.1,ChgB.trans h.2 h'.2⟩
theorem ChgS.refl(x:DS):ChgS x x:=⟨Chg.refl _,ChgB.refl _,ChgB.refl _⟩
theorem ChgS.trans{x y z:DS}(h:ChgS x y)(h':ChgS y z):ChgS x z:=⟨h.sl.trans h'.sl,h.bx.trans h'.bx,h.hp.trans h'.hp⟩
theorem Chg.put:∀ (x:List DC) (n:Nat) (v:DV),Chg x (Cl x n v)
 |[],_,_=>trivial
 |_::r,0,_=>⟨.inl rfl,Chg.refl r⟩
 |_::r,n+1,v=>⟨.inr rfl,Chg.put r n v⟩
theorem Chg.clr(hd:Hd):∀ (x:List DC),Chg x (Cm hd x)
 |[]=>trivial
 | c::r=>by
   refine⟨?_,Chg.clr hd r⟩
   split
   · exact .inl rfl
   · exact .inr rfl
theorem Chg.clearBox(i:Nat):∀ (x:List DC),Chg x (Lh i x)
 |[]=>trivial
 | c::r=>by
   refine⟨?_,Chg.clearBox i r⟩
   split
   · exact .inl rfl
   · exact .inr rfl
theorem Chg.keep(live:List Nat):∀ (n:Nat) (x:List DC),Chg x (O9 live n x)
 |_,[]=>trivial
 | n,c::r=>by
   refine⟨?_,Chg.keep live (n+1) r⟩
   split
   · split
     · exact .inl rfl
     · exact .inr rfl
   · exact .inl rfl
theorem Chg.trim(live:List Nat):∀ (n:Nat) (x:List DC),Chg x (Pr live n x)
 |_,[]=>trivial
 | n,c::r=>by
   refine⟨?_,Chg.trim live (n+1) r⟩
   split
   · exact .inr rfl
   · exact .inl rfl
theorem Chg.splice:∀ (x:List DC) (n:Nat) (vs:List DV),Chg x (F3 x n vs)
 |[],n,[]=>trivial
 |_::_,0,[]=>Chg.refl _
 |_::_,_+1,[]=>Chg.refl _
 |[],_,_::_=>trivial
 |_::r,0,v::vs=>⟨.inl rfl,Chg.splice r 0 vs⟩
 |_::r,n+1,v::vs=>⟨.inr rfl,Chg.splice r n (v::vs)⟩
theorem Chg.news:∀ (x:List DC) (vs:List DV),Chg x (Go.Ag.news vs)
 |x,[]=>by cases x<;>trivial
 |[],v::vs=>⟨rfl,Chg.news [] vs⟩
 |_::a,v::vs=>⟨.inl rfl,Chg.news a vs⟩
theorem ChgB.put:∀ (x:List (List DC)) (i:Nat) {v:List DC},Chg (A6 x i) v→ChgB x (DQ x i v)
 |[],_,_,_=>trivial
 |_::r,0,_,h=>⟨h,ChgB.refl r⟩
 |_::r,n+1,v,h=>⟨Chg.refl _,ChgB.put r n h⟩
theorem ChgB.app:∀ (x:List (List DC)) (vs:List DV),ChgB x (x++[Go.Ag.news vs])
 |[],vs=>⟨Chg.news [] vs,trivial⟩
 |b::r,vs=>⟨Chg.refl b,ChgB.app r vs⟩
theorem Chg.rem:∀ {x y:List DC},Chg (Go.Ag.clean x) y→Chg x (KI x y)
 |x,[],_=>by cases x<;>trivial
 |[],_::_,h=>h
 | b :: a,c::r,h=>by
   refine⟨?_,Chg.rem h.2⟩
   rcases h.1 with h1|h1
   · left;simp[h1]
   · subst h1
     cases hb:b.d with
     |true=>left;rfl
     |false=>right;obtain⟨d,v⟩:=b;simp only at hb;subst hb;rfl
theorem ChgB.rem:∀ {x y:List (List DC)},ChgB (Kr x) y→ChgB x (ML x y)
 |x,[],_=>by cases x<;>trivial
 |[],_::_,h=>h
 |b::a,c::r,h=>⟨h.1.rem,ChgB.rem h.2⟩
theorem ChgS.rem{x y:DS}(h:ChgS x.clean y):ChgS x (Ic x y):=⟨h.sl.rem,h.bx.rem,h.hp.rem⟩
theorem ChgS.put(d:DS)(n:Option Nat)(v:DV):ChgS d (d.put n v):=by
 cases n with
 |none=>exact ChgS.refl d
 | some n=>
   simp only[DS.put];split
   · exact⟨(Chg.put _ _ _).trans (Chg.clr _ _),ChgB.refl _,ChgB.refl _⟩
   · exact⟨Chg.put _ _ _,ChgB.refl _,ChgB.refl _⟩
theorem ChgS.mvOut(x:Opnd)(d:DS):ChgS d (AK x d).2:=by
 cases x with
 |c v=>exact ChgS.refl d
 | t n=>
   simp only[AK,MI];split
   · split
     · exact ChgS.refl d
     · exact⟨(Chg.put _ _ _).trans (Chg.clr _ _),ChgB.refl _,ChgB.refl _⟩
   · exact ChgS.refl d
theorem ChgS.fzOut(x:Opnd)(d:DS):ChgS d (I3 x d).2:=by
 cases x with
 |c v=>exact ChgS.refl d
 | t n=>
   simp only[I3,Px];split
   · split
     · exact⟨(Chg.put _ _ _).trans (Chg.clr _ _),ChgB.refl _,ChgB.refl _⟩
     · exact ChgS.refl d
   · exact ChgS.refl d
theorem ChgS.setK(d:DS)(v:DV):∀ (hd:Hd) (p:List Nat),ChgS d (Eu d v hd p)
 |.s t,p=>⟨(Chg.put _ _ _).trans (Chg.clr _ _),ChgB.refl _,ChgB.refl _⟩
 |.b i,[c]=>⟨Chg.clr _ _,ChgB.put _ _ (Chg.put _ _ _),ChgB.refl _⟩
 |.h i,[c]=>⟨Chg.clr _ _,ChgB.refl _,ChgB.put _ _ (Chg.put _ _ _)⟩
 |.b i,[]=>ChgS.refl d
 |.b i,_::_::_=>ChgS.refl d
 |.h i,[]=>ChgS.refl d
 |.h i,_::_::_=>ChgS.refl d
 |.x i,_=>ChgS.refl d
theorem Qn:∀ (ps:List (Nat×Nat×Opnd)) {cs cs':List DV} {d d':DS},Gh cs ps d=some (cs',d')→ChgS d d'
 | [],cs,cs',d,d',h=>by
   simp only[Gh,Aj,Ak] at h
   obtain⟨_,rfl⟩:=h
   exact ChgS.refl d
 | (off,size,x)::r,cs,cs',d,d',h=>by
   unfold Gh at h
   split at h
   · exact(ChgS.mvOut x d).trans (Qn r h)
   · cases h
theorem QS{w:Nat}{y:Opnd}{d d':DS}{new:DSrc}(h:Gq w y d=some (new,d')):ChgS d d':=by
 unfold Gq at h
 split at h<;>(try split at h)<;>first|(cases h;done)|(simp only[Aj,Ak] at h;obtain⟨_,rfl⟩:=h;first|exact ChgS.refl _|exact ChgS.mvOut y d)
theorem Vh{w:Nat}{x:Opnd}{new:DSrc}{d d':DS}{g:PX}{v:DV}(h:KH w x new d=some (g,v,d')):ChgS d d':=by
 unfold KH at h;split at h
 · cases h
 · repeat' split at h
   all_goals first|(cases h;done)|(simp only[Aj,Ak] at h;obtain⟨_,_,rfl⟩:=h;first|exact ChgS.mvOut x d|exact ChgS.setK _ _ _ _)
theorem Uk{m:Bool}{i:Nat}{n:Option Nat}{a:DV}{d d':DS}{g:PX}{v:DV}(h:I6 m i n a d=some (g,v,d')):ChgS d d':=by
 unfold I6 at h;split at h
 · cases m with
   | true=>
     simp only[AE] at h;split at h
     · simp only[Bb,Ak] at h;obtain⟨_,_,_,_,rfl⟩:=h;exact⟨Chg.clr _ _,ChgB.put _ _ (Chg.splice _ _ _),ChgB.refl _⟩
     · cases h
   | false=>
     simp only[Ax,AJ] at h;split at h
     · simp only[Bb,Ak] at h;obtain⟨_,_,_,_,rfl⟩:=h;exact ChgS.refl _
     · cases h
 · cases h
theorem Ux{m:Bool}{n:Option Nat}{a:DV}{d d':DS}{g:PX}{v:DV}(h:HR m n a d=some (g,v,d')):ChgS d d':=by
 unfold HR at h;split at h
 · cases m with
   | true=>
     simp only[AE] at h;split at h
     · simp only[Bb,Ak] at h;obtain⟨_,_,_,_,rfl⟩:=h;exact⟨Chg.clr _ _,ChgB.refl _,ChgB.put _ _ (Chg.splice _ _ _)⟩
     · cases h
   | false=>
     simp only[Ax,AJ] at h;split at h
     · simp only[Bb,Ak] at h;obtain⟨_,_,_,_,rfl⟩:=h;exact ChgS.refl _
     · cases h
 · split at h
   · split at h
     · simp only[Bb,Ak] at h;obtain⟨_,_,_,_,rfl⟩:=h;exact ChgS.refl _
     · cases h
   · cases h
 · cases h
theorem ZF{i n:Nat}{a x:Opnd}{d d':DS}{g:PX}{v:DV}(h:LN i n a x d=some (g,v,d')):ChgS d d':=by
 unfold LN at h;simp only at h;split at h
 · split at h
   · simp only[Aj,Ak] at h;obtain⟨_,_,rfl⟩:=h;refine(ChgS.mvOut x d).trans ⟨?_,ChgB.put _ _ (Chg.splice _ _ _),ChgB.refl _⟩;split
     · exact Chg.clr _ _
     · exact Chg.refl _
   · cases h
 · cases h
theorem ZN{n:Nat}{a x:Opnd}{d d':DS}{g:PX}{v:DV}(h:Ly n a x d=some (g,v,d')):ChgS d d':=by
 unfold Ly at h;simp only at h;split at h
 · split at h
   · simp only[Aj,Ak] at h;obtain⟨_,_,rfl⟩:=h;refine(ChgS.mvOut x d).trans ⟨?_,ChgB.refl _,ChgB.put _ _ (Chg.splice _ _ _)⟩;dsimp only;split
     · exact Chg.clr _ _
     · exact Chg.refl _
   · cases h
 · split at h
   · split at h
     · split at h
       · simp only[Aj,Ak] at h;obtain⟨_,_,rfl⟩:=h;exact(ChgS.mvOut x d).trans (ChgS.setK _ _ _ _)
       · cases h
     · cases h
   · cases h
 · cases h
theorem UN{m:Bool}{n:Option Nat}{a:DV}{d d':DS}{r:C3}{g:PX}{v:DV}(h:F6 m n a d=some r)(hr:r=some (g,v,d')):ChgS d d':=by
 unfold F6 at h;split at h
 · simp only[Aj] at h;rw[hr] at h;split at h
   · simp only[Aj,Ak] at h;obtain⟨_,_,rfl⟩:=h;exact ChgS.refl _
   · cases h
 · cases h
theorem Z4{n:Nat}{hd:Hd}{p k j o:Nat}{w:DV}{d d':DS}{g:PX}{v:DV}(h:LD n hd p k j o w d=some (g,v,d')):ChgS d d':=by
 unfold LD at h;split at h
 · split at h
   · split at h
     · simp only[Aj,Ak] at h;obtain⟨_,_,rfl⟩:=h;exact ChgS.setK _ _ _ _
     · cases h
   · cases h
 · cases h
theorem fZ(x:Opnd)(d:DS):(G1 x d).2=d:=by cases x<;>rfl
theorem bZ{w:Nat}{new:DSrc}{d d':DS}{g:PX}{v:DV}(h:Ia w new d=some (g,v,d')):d'=d:=by
 unfold Ia at h;split at h<;>(simp only[Aj,Ak] at h;exact h.2.2.symm)
theorem bc{w:Nat}{x:Opnd}{new:DSrc}{d d':DS}{g:PX}{v:DV}(h:Me w x new d=some (g,v,d')):ChgS d d':=by
 unfold Me at h;split at h
 · cases h
 · repeat' split at h
   all_goals first|(cases h;done)|(have:=bZ h;subst this;exact ChgS.mvOut x d)|(simp only[Aj,Ak] at h;obtain⟨_,_,rfl⟩:=h;first|exact ChgS.mvOut x d|exact ChgS.setK _ _ _ _)
theorem UJ{m:Bool}{o:AOp}{ty:Option RT}{d d':DS}{g:PX}{v:DV}(h:AY m o ty d=some (g,v,d')):ChgS d d':=by
 have pure:(Kw o (fun x=>x.dev d.sl)).map (fun r=>(r.1,r.2,d))=some (g,v,d')→ChgS d d':=fun h=>by
  simp only[Bb,Ak] at h;obtain⟨_,_,_,_,rfl⟩:=h;exact ChgS.refl _
 cases o<;>first|exact pure h|skip
 case mv x=>
  cases m with
  | true=>
    simp only[AY,AE] at h;split at h
    · simp only[Aj,Ak] at h;obtain⟨_,_,rfl⟩:=h;rw[fZ];exact ChgS.refl d
    · cases h
  | false=>
    simp only[AY,Ax,AJ] at h;split at h
    · simp only[Aj,Ak] at h;obtain⟨_,_,rfl⟩:=h;exact ChgS.mvOut x d
    · cases h
 case loadB i n a=>exact Uk h
 case loadH n a=>
  simp only[AY] at h;split at h
  · rename_i h1;exact UN h1 h
  · exact Ux h
 case loadX i c n a=>
  simp only[AY] at h;split at h
  · split at h
    · rename_i h1;exact UN h1 h
    · cases h
  · cases h
 case storeB i n a x=>exact ZF h
 case storeH n a x=>
  simp only[AY] at h;split at h
  · split at h
    · exact Z4 h
    · exact ZN h
  · cases h
 case app w x y=>
  simp only[AY] at h;split at h
  · rename_i h1;exact(QS h1).trans (Vh h)
  · cases h
 case appN w x y=>
  simp only[AY] at h;split at h
  · split at h
    · rename_i h1;exact(QS h1).trans (Vh h)
    · cases h
  · cases h
 case allocB i zs=>
  simp only[AY] at h;split at h
  · simp only[Aj,Ak] at h;obtain⟨_,_,rfl⟩:=h;exact⟨(Chg.clearBox _ _).trans (Chg.clr _ _),ChgB.put _ _ (Chg.news _ _),ChgB.refl _⟩
  · cases h
 case boxB i n x=>
  simp only[AY] at h;split at h
  · simp only[Aj,Ak] at h;obtain⟨_,_,rfl⟩:=h;exact(ChgS.mvOut x d).trans ⟨(Chg.clearBox _ _).trans (Chg.clr _ _),ChgB.put _ _ (Chg.news _ _),ChgB.refl _⟩
  · cases h
 case allocH zs=>
  simp only[AY] at h;split at h
  · simp only[Aj,Ak] at h;obtain⟨_,_,rfl⟩:=h;exact⟨Chg.clr _ _,ChgB.refl _,ChgB.app _ _⟩
  · cases h
 case boxH n x=>
  simp only[AY] at h;split at h
  · simp only[Aj,Ak] at h;obtain⟨_,_,rfl⟩:=h;exact(ChgS.mvOut x d).trans ⟨Chg.clr _ _,ChgB.refl _,ChgB.app _ _⟩
  · cases h
 case build zs ps=>
  simp only[AY] at h;split at h
  · split at h
    · rename_i hf;simp only[Aj,Ak] at h;obtain⟨_,_,rfl⟩:=h;exact Qn ps hf
    · cases h
  · cases h
 case mkSlice w z len=>
  simp only[AY] at h
  repeat' split at h
  all_goals first|(cases h;done)|(simp only[Aj,Ak] at h;obtain⟨_,_,rfl⟩:=h;exact ChgS.refl _)
 case litSlice w n zs ps=>
  simp only[AY] at h;split at h
  · simp only[Aj,Ak] at h;obtain⟨_,_,rfl⟩:=h;exact ChgS.refl _
  · split at h
    · split at h
      · rename_i hf;have:=Qn ps hf
        repeat' split at h
        all_goals first|(cases h;done)|(simp only[Aj,Ak] at h;obtain⟨_,_,rfl⟩:=h;exact this)
      · cases h
    · cases h
 case extract x i=>
  simp only[AY] at h
  repeat' split at h
  all_goals first|(cases h;done)|(simp only[Aj,Ak] at h;obtain⟨_,_,rfl⟩:=h;first|exact ChgS.refl _|exact⟨(Chg.put _ _ _).trans (Chg.clr _ _),ChgB.refl _,ChgB.refl _⟩)
theorem aE{ws:List (Nat×Nat)}{m:Bool}{o:AOp}{ty:Option RT}{d d':DS}{g:PX}{v:DV}(h:I0 ws m o ty d=some (g,v,d')):ChgS d d':=by
 have gen:(match AY m o ty d with|some (g,v,st)=>(match Jk ws v with|some v=>some (g,v,st)|none=>none)|none=>none)=some (g,v,d')→ChgS d d':=by
  intro h
  cases h1:AY m o ty d with
  |none=>rw[h1] at h;cases h
  | some r=>
    obtain⟨g1,v1,d1⟩:=r;rw[h1] at h;simp only at h
    cases h2:Jk ws v1 with
    |none=>rw[h2] at h;cases h
    | some v2=>
      rw[h2] at h;simp only[Aj,Ak] at h;obtain⟨_,_,rfl⟩:=h;exact UJ h1
 cases o<;>first|exact gen h|skip
 case app w x y=>
  simp only[I0] at h;split at h
  · split at h
    · split at h
      · rename_i h1;exact(QS h1).trans (bc h)
      · cases h
    · cases h
  · cases h
theorem Ha{α:Type}(x y:α):bSel true x y=x:=by simp only[Sj,EX,EY]
theorem G2{α:Type}(x y:α):bSel false x y=y:=by simp only[Sj,EX,EY]
theorem Wx(c:Bool)(x y:BX):(Pw c x y).b=bif c then x.b else y.b:=by
 cases x<;>cases y<;>rename_i x y<;>cases c<;>cases x<;>cases y<;>simp[Pw,BX.b,Ks,Xn,RL,Sj]
theorem I4{q q':Ql}(h:Df q q'=true):q=q':=of_decide_eq_true h
mutual
theorem ON(c:Bool):∀ (x y:DV),Ca c x y= .any∨(Ca c x y).enc=(bif c then x.enc else y.enc)
 | .undef,y=>by
   cases y<;>first|exact .inl rfl|skip
   case undef=>cases c<;>exact .inr rfl
 | .bool a,y=>by
   cases y<;>first|exact .inl rfl|skip
   case bool b=>right;simp only[Ca,DV.enc,Wx];cases c<;>rfl
 | .int k a,y=>by
   cases y<;>first|exact .inl rfl|skip
   case int k' b=>
    simp only[Ca]
    split
    · rename_i hk;have:=OB hk;subst this
      right;cases c<;>simp only[DV.enc,Ha,G2,EX,EY]
    · exact .inl rfl
 | .str a,y=>by
   cases y<;>first|exact .inl rfl|skip
   case str b=>right;cases c<;>simp only[Ca,DV.enc,Ha,G2,EX,EY]
 | .ifc a,y=>by
   cases y<;>first|exact .inl rfl|skip
   case ifc b=>right;cases c<;>simp only[Ca,DV.enc,Ha,G2,EX,EY]
 | .nil q,y=>by
   cases y<;>first|exact .inl rfl|skip
   case nil q'=>
    simp only[Ca]
    split
    · rename_i hq;have:=I4 hq;subst this;right;cases c<;>rfl
    · exact .inl rfl
   case sl q' r l=>
    simp only[Ca]
    split
    · rename_i hq;have:=I4 hq;subst this;right
      cases c<;>simp only[DV.enc,Ha,G2,EX,EY,L9]
    · exact .inl rfl
 | .sl q r l,y=>by
   cases y<;>first|exact .inl rfl|skip
   case nil q'=>
    simp only[Ca]
    split
    · rename_i hq;have:=I4 hq;subst this;right
      cases c<;>simp only[DV.enc,Ha,G2,EX,EY,L9]
    · exact .inl rfl
   case sl q' r' l'=>
    simp only[Ca]
    split
    · rename_i hq;have:=I4 hq;subst this
      split
      · rename_i l2 hl
        right
        cases c<;>simp only[DV.enc,Ha,G2,EX,EY,(Oh hl).2]
      · exact .inl rfl
    · exact .inl rfl
 | .box i o,y=>by
   cases y<;>first|exact .inl rfl|skip
   case box i' o'=>
    simp only[Ca]
    split
    · rename_i h;simp only[Ah,AD] at h;obtain⟨rfl,rfl⟩:=h;right;cases c<;>rfl
    · exact .inl rfl
 | .ptr i o,y=>by
   cases y<;>first|exact .inl rfl|skip
   case ptr i' o'=>
    simp only[Ca]
    split
    · rename_i h;simp only[Ah,AD] at h;obtain⟨rfl,rfl⟩:=h;right;cases c<;>rfl
    · exact .inl rfl
 | .agg a,y=>by
   cases y<;>first|exact .inl rfl|skip
   case agg b=>
    simp only[Ca]
    split
    · rename_i h;simp only[Ah,AD] at h
      right
      have:=Ri c a b h.1 h.2
      cases c<;>simp only[DV.enc,this,EX,EY]
    · exact .inl rfl
 | .tup a,y=>by
   cases y<;>first|exact .inl rfl|skip
   case tup b=>
    simp only[Ca]
    split
    · rename_i h;simp only[Ah,AD] at h
      right
      have:=Ri c a b h.1 h.2
      cases c<;>simp only[DV.enc,this,EX,EY]
    · exact .inl rfl
 |.any,y=>by cases y<;>exact .inl rfl
 |.ep _ _ _ _ _,y=>by cases y<;>exact .inl rfl
theorem Ri(c:Bool):∀ (x y:List DV),x.length=y.length→DV.okL (Hf c x y)=true→DV.encL (Hf c x y)=(bif c then DV.encL x else DV.encL y)
 |[],[],_,_=>by cases c<;>rfl
 |[],_::_,h,_=>by cases h
 |_::_,[],h,_=>by cases h
 | x :: a,y::b,h,hk=>by
   simp only[Hf,DV.okL,Ah] at hk
   have h1:=Ri c a b (by simpa using h) hk.2
   rcases ON c x y with h2|h2
   · rw[h2] at hk;cases hk.1
   · simp only[Hf,DV.encL,h1,h2]
     cases c<;>rfl
end
theorem fb{c:Bool}{x y:DV}{p:PV}(h:EV (bif c then x else y) p):EV (Ca c x y) p:=by
 rcases ON c x y with h1|h1
 · exact .inl h1
 · cases c with
   | true=>
     rcases h with h|h
     · simp only[EX] at h;subst h;exact .inl (by cases y<;>rfl)
     · exact .inr (by rw[h1];exact h)
   | false=>
     rcases h with h|h
     · simp only[EY] at h;subst h;exact .inl (by cases x<;>rfl)
     · exact .inr (by rw[h1];exact h)
theorem Rj{c:Bool}:∀ {b x y:List DC} {p:List PV},Chg b x→Chg b y→x.length=y.length→EL (bif c then x else y) p→EL (Mf c x y) p
 |_,[],[],p,_,_,_,h=>by cases c<;>exact h
 |_,[],_::_,_,_,_,h,_=>by cases h
 |_,_::_,[],_,_,_,h,_=>by cases h
 |b,x::a,y::e,[],_,_,_,h=>by cases c<;>exact h.elim
 | b,x::a,y::e,q::p,h1,h2,hl,h=>by
   have hr:∃ b',Chg b' a∧Chg b' e∧((x.d=true∨y.d=true)∨x=y):=by
    cases b with
    |nil=>exact⟨[],h1.2,h2.2,.inl (.inl h1.1)⟩
    | cons b0 b=>
      refine⟨b,h1.2,h2.2,?_⟩;rcases h1.1 with e1|e1
      · exact .inl (.inl e1)
      · rcases h2.1 with e2|e2
        · exact .inl (.inr e2)
        · exact .inr (e1.trans e2.symm)
   obtain⟨b',h3,h4,h5⟩:=hr;have ih:=Rj (c:=c) (p:=p) h3 h4 (by simpa using hl) (by cases c<;>exact h.2);refine⟨?_,ih⟩
   have hv:EV (bif c then x.v else y.v) q:=by cases c<;>exact h.1
   unfold Py;split
   · exact fb hv
   · rename_i hd;rcases h5 with h5|h5
     · exfalso;apply hd;rcases h5 with h5|h5<;>simp[h5]
     · subst h5;cases c<;>exact hv
theorem Rc{c:Bool}:∀ {b x y:List (List DC)} {p:List (List PV)},ChgB b x→ChgB b y→x.length=y.length→EB (bif c then x else y) p→EB (Ms c x y) p
 |_,[],[],p,_,_,_,h=>by cases c<;>exact h
 |_,[],_::_,_,_,_,h,_=>by cases h
 |_,_::_,[],_,_,_,h,_=>by cases h
 |b,x::a,y::e,[],_,_,_,h=>by cases c<;>exact h.elim
 | b,x::a,y::e,q::p,h1,h2,hl,h=>by
   have hr:∃ b0 b',Chg b0 x∧Chg b0 y∧ChgB b' a∧ChgB b' e:=by
    cases b with
    |nil=>exact⟨[],[],h1.1,h2.1,h1.2,h2.2⟩
    |cons b0 b=>exact⟨b0,b,h1.1,h2.1,h1.2,h2.2⟩
   obtain⟨b0,b',h3,h4,h5,h6⟩:=hr;have ih:=Rc (c:=c) (p:=p) h5 h6 (by simpa using hl) (by cases c<;>exact h.2);refine⟨?_,ih⟩
   have hv:EBx (bif c then x else y) q:=by cases c<;>exact h.1
   split
   · rename_i hxy
     have hxy:x.length=y.length:=by simpa using hxy
     rcases hv with hv|hv
     · cases c
       · simp only[EY] at hv;subst hv;have:x=[]:=Em hxy;subst this;exact .inl rfl
       · simp only[EX] at hv;subst hv;have:y=[]:=Em hxy.symm;subst this;exact .inl rfl
     · exact .inr (Rj h3 h4 hxy hv)
   · exact .inl rfl
theorem gf{c:Bool}{b x y z:DS}{s:PS}(hx:ChgS b x)(hy:ChgS b y)(h:Jf c x y=some z)(hs:ES (bif c then x else y) s):ES z s:=by
 unfold Jf at h;split at h
 · rename_i hl;simp only[Ah,AD] at hl;simp only[Aj] at h;subst h;exact⟨Rj hx.sl hy.sl hl.1.1 (by cases c<;>exact hs.sl),Rc hx.bx hy.bx hl.1.2 (by cases c<;>exact hs.bx),Rc hx.hp hy.hp hl.2 (by cases c<;>exact hs.hp)⟩
 · cases h
theorem Le{c:Bool}:∀ {b x y:List DC},Chg b x→Chg b y→Chg b (Mf c x y)
 |b,[],_,_,_=>by cases b<;>trivial
 |b,_::_,[],_,_=>by cases b<;>trivial
 |[],x::a,y::e,h,h'=>⟨by simp[Py,h.1],Le h.2 h'.2⟩
 | b::_,x::a,y::e,h,h'=>by
   refine⟨?_,Le h.2 h'.2⟩
   unfold Py
   split
   · exact .inl rfl
   · exact h.1
theorem NY{c:Bool}:∀ {b x y:List (List DC)},ChgB b x→ChgB b y→ChgB b (Ms c x y)
 |b,[],_,_,_=>by cases b<;>trivial
 |b,_::_,[],_,_=>by cases b<;>trivial
 | [],x::a,y::e,h,h'=>by
   refine⟨?_,NY h.2 h'.2⟩
   split
   · exact Le h.1 h'.1
   · trivial
 | b::_,x::a,y::e,h,h'=>by
   refine⟨?_,NY h.2 h'.2⟩
   split
   · exact Le h.1 h'.1
   · cases b<;>trivial
theorem dN{c:Bool}{b x y z:DS}(hx:ChgS b x)(hy:ChgS b y)(h:Jf c x y=some z):ChgS b z:=by
 unfold Jf at h;split at h
 · simp only[Aj] at h;subst h;exact⟨Le hx.sl hy.sl,NY hx.bx hy.bx,NY hx.hp hy.hp⟩
 · cases h
theorem PX.land_den:∀ (a b:PX),(a.land b).den↔a.den∧b.den
 |.tt,b=>by simp[PX.land,PX.den]
 |.ff,b=>by simp[PX.land,PX.den]
 |.p h,b=>by cases b<;>simp[PX.land,PX.den]
 |.and x y,b=>by cases b<;>simp[PX.land,PX.den]
 |.ite c x y,b=>by cases b<;>simp[PX.land,PX.den]
theorem PX.if_den(c:Bool)(a b:PX):(PX.if' c a b).den↔(c=true→a.den)∧(c=false→b.den):=by
 cases a<;>cases b<;>simp[PX.if',PX.den]
def AExit.isN:AExit→Bool
 |.normal=>true
 |_=>false
def DT.lf:DT→Option (AExit×DS)
 |.leaf e st=>some (e,st)
 |.node c a b=>(match c with|true=>a.lf|false=>b.lf)
 |.chk _ t=>t.lf
 |.bad=>none
def DT.All(P:DS→Prop):DT→Prop
 |.leaf _ st=>P st
 |.node _ a b=>a.All P∧b.All P
 |.chk _ t=>t.All P
 |.bad=>True
theorem DT.All.imp{P Q:DS→Prop}(h:∀ st,P st→Q st):∀ {t:DT},t.All P→t.All Q
 |.leaf _ _,a=>h _ a
 |.node _ _ _,a=>⟨DT.All.imp h a.1,DT.All.imp h a.2⟩
 |.chk _ t,a=>DT.All.imp h (t:=t) a
 |.bad,_=>trivial
theorem DT.ok_lf:∀ {t:DT},t.ok.den→∃ e st,t.lf=some (e,st)
 |.leaf e st,_=>⟨e,st,rfl⟩
 | .node c a b,h=>by
   have h:=(PX.if_den c a.ok b.ok).mp h
   cases c
   · exact DT.ok_lf (t:=b) (h.2 rfl)
   · exact DT.ok_lf (t:=a) (h.1 rfl)
 |.chk g t,h=>DT.ok_lf (t:=t) ((PX.land_den g t.ok).mp h).2
 |.bad,h=>h.elim
theorem DT.All.lf{P:DS→Prop}:∀ {t:DT} {e:AExit} {st:DS},t.All P→t.lf=some (e,st)→P st
 |.leaf e st,_,_,h,hl=>by simp only[DT.lf,Aj,Ak] at hl;obtain⟨_,rfl⟩:=hl;exact h
 | .node c a b,_,_,h,hl=>by
   cases c
   · exact DT.All.lf (t:=b) h.2 hl
   · exact DT.All.lf (t:=a) h.1 hl
 |.chk g t,_,_,h,hl=>DT.All.lf (t:=t) h hl
 |.bad,_,_,_,hl=>by cases hl
theorem DT.norm_chg{b:DS}:∀ {t:DT} {m:DS},t.All (ChgS b)→t.norm= .some m→ChgS b m
 | .leaf e st,m,h,hn=>by
   cases e<;>simp only[DT.norm,reduceCtorEq,NS.some.injEq] at hn
   subst hn;exact h
 | .node c x y,m,h,hn=>by
   simp only[DT.norm] at hn
   cases h1:x.norm with
   |none=>rw[h1] at hn;exact DT.norm_chg h.2 hn
   | fail=>
     rw[h1] at hn
     cases h2:y.norm<;>rw[h2] at hn<;>cases hn
   | some a=>
     rw[h1] at hn
     cases h2:y.norm with
     |none=>rw[h2] at hn;exact DT.norm_chg h.1 (h1.trans hn)
     |fail=>rw[h2] at hn;cases hn
     | some e=>
       rw[h2] at hn
       simp only at hn
       cases h3:Jf c a e with
       |none=>rw[h3] at hn;cases hn
       | some z=>
         rw[h3] at hn
         simp only[NS.some.injEq] at hn
         subst hn
         exact dN (DT.norm_chg h.1 h1) (DT.norm_chg h.2 h2) h3
 |.chk g t,m,h,hn=>DT.norm_chg (t:=t) h hn
 |.bad,m,h,hn=>by cases hn
theorem DT.norm_none:∀ {t:DT} {e:AExit} {st:DS},t.norm= .none→t.lf=some (e,st)→e.isN=false
 | .leaf e st,_,_,hn,hl=>by
   simp only[DT.lf,Aj,Ak] at hl;obtain⟨rfl,_⟩:=hl
   cases e<;>first|rfl|cases hn
 | .node c x y,e,st,hn,hl=>by
   simp only[DT.norm] at hn
   have hxy:x.norm= .none∧y.norm= .none:=by
    cases h1:x.norm<;>rw[h1] at hn<;>cases h2:y.norm<;>rw[h2] at hn<;>first|exact⟨rfl,rfl⟩|(cases hn;done)|(simp only at hn;split at hn<;>cases hn)
   cases c
   · exact DT.norm_none hxy.2 hl
   · exact DT.norm_none hxy.1 hl
 |.chk g t,_,_,hn,hl=>DT.norm_none (t:=t) hn hl
 |.bad,_,_,_,hl=>by cases hl
theorem DT.norm_s{b:DS}:∀ {t:DT} {m st:DS} {s:PS},t.All (ChgS b)→t.norm= .some m→t.lf=some (.normal,st)→ES st s→ES m s
 | .leaf e st0,m,st,s,h,hn,hl,hs=>by
   simp only[DT.lf,Aj,Ak] at hl
   obtain⟨rfl,rfl⟩:=hl
   simp only[DT.norm,NS.some.injEq] at hn
   subst hn;exact hs
 | .node c x y,m,st,s,h,hn,hl,hs=>by
   simp only[DT.norm] at hn
   cases h1:x.norm with
   | none=>
     rw[h1] at hn
     cases c with
     |true=>have:=DT.norm_none h1 hl;cases this
     |false=>exact DT.norm_s h.2 hn hl hs
   | fail=>
     rw[h1] at hn
     cases h2:y.norm<;>rw[h2] at hn<;>cases hn
   | some a=>
     rw[h1] at hn
     cases h2:y.norm with
     | none=>
       rw[h2] at hn
       cases c with
       |true=>exact DT.norm_s h.1 (h1.trans hn) hl hs
       |false=>have:=DT.norm_none h2 hl;cases this
     |fail=>rw[h2] at hn;cases hn
     | some e=>
       rw[h2] at hn
       simp only at hn
       cases h3:Jf c a e with
       |none=>rw[h3] at hn;cases hn
       | some z=>
         rw[h3] at hn
         simp only[NS.some.injEq] at hn
         subst hn
         refine gf (DT.norm_chg h.1 h1) (DT.norm_chg h.2 h2) h3 ?_
         cases c with
         |true=>exact DT.norm_s h.1 h1 hl hs
         |false=>exact DT.norm_s h.2 h2 hl hs
 |.chk g t,m,st,s,h,hn,hl,hs=>DT.norm_s (t:=t) h hn hl hs
 |.bad,m,st,s,h,hn,hl,hs=>by cases hl
theorem DT.cont_s:∀ {t:DT} {b:BX} {e:AExit} {st:DS},t.cont=some b→t.lf=some (e,st)→b.b=e.isN
 | .leaf e st0,b,e',st,hc,hl=>by
   simp only[DT.lf,Aj,Ak] at hl;obtain⟨rfl,_⟩:=hl;cases e<;>simp only[DT.cont,Aj] at hc<;>subst hc<;>rfl
 | .node c x y,b,e,st,hc,hl=>by
   have hno:∀ {t:DT},t.cont=none→t.lf=none:=by
    intro t
    induction t with
    |leaf e st=>intro h;cases e<;>cases h
    | node c x y ih1 ih2=>
      intro h;simp only[DT.cont] at h
      cases h1:x.cont<;>rw[h1] at h<;>cases h2:y.cont<;>rw[h2] at h<;>first|(cases h;done)|skip
      cases c
      · exact ih2 h2
      · exact ih1 h1
    |chk g t ih=>intro h;exact ih h
    |bad=>intro _;rfl
   simp only[DT.cont] at hc
   cases h1:x.cont with
   | none=>
     rw[h1] at hc
     cases c with
     |true=>simp only[DT.lf,hno h1] at hl;cases hl
     |false=>exact DT.cont_s hc hl
   | some p=>
     rw[h1] at hc
     cases h2:y.cont with
     | none=>
       rw[h2] at hc
       cases c with
       |true=>exact DT.cont_s (h1.trans hc) hl
       |false=>simp only[DT.lf,hno h2] at hl;cases hl
     | some q=>
       rw[h2] at hc;simp only[Aj] at hc;subst hc;rw[Wx]
       cases c with
       |true=>exact DT.cont_s h1 hl
       |false=>exact DT.cont_s h2 hl
 |.chk g t,b,e,st,hc,hl=>DT.cont_s (t:=t) hc hl
 |.bad,b,e,st,hc,hl=>by cases hl
theorem DT.cont_none:∀ {t:DT},t.cont=none→t.lf=none
 |.leaf e st,h=>by cases e<;>cases h
 | .node c x y,h=>by
   simp only[DT.cont] at h
   cases h1:x.cont<;>rw[h1] at h<;>cases h2:y.cont<;>rw[h2] at h<;>first|(cases h;done)|skip
   cases c
   · exact DT.cont_none (t:=y) h2
   · exact DT.cont_none (t:=x) h1
 |.chk g t,h=>DT.cont_none (t:=t) h
 |.bad,_=>rfl
theorem DT.drop_lf:∀ {t:DT} {e:AExit} {st:DS},t.lf=some (e,st)→e.isN=false→t.drop.lf=some (e,st)
 | .leaf e st0,e',st,hl,he=>by
   simp only[DT.lf,Aj,Ak] at hl;obtain⟨rfl,rfl⟩:=hl
   cases e<;>first|rfl|cases he
 | .node c x y,e,st,hl,he=>by
   have hnb:∀ a b:DT,(DT.nodeB c a b).lf=some (e,st)∨(match c with|true=>a.lf|false=>b.lf)≠some (e,st):=by
    intro a b
    cases c with
    | true=>
      cases ha:a with
      |bad=>right;simp[DT.lf]
      | _=>
        rw[← ha];by_cases h:a.lf=some (e,st)
        · left;cases hb:b<;>rw[ha] at h ⊢<;>exact h
        · right;exact h
    | false=>
      cases hb:b with
      |bad=>right;simp[DT.lf]
      | _=>
        rw[← hb];by_cases h:b.lf=some (e,st)
        · left;cases ha:a<;>rw[hb] at h ⊢<;>exact h
        · right;exact h
   simp only[DT.drop];rcases hnb x.drop y.drop with h|h
   · exact h
   · exfalso;apply h
     cases c with
     |true=>exact DT.drop_lf (t:=x) hl he
     |false=>exact DT.drop_lf (t:=y) hl he
 |.chk g t,e,st,hl,he=>DT.drop_lf (t:=t) hl he
 |.bad,e,st,hl,he=>by cases hl
theorem DT.drop_all{P:DS→Prop}:∀ {t:DT},t.All P→t.drop.All P
 |.leaf e st,h=>by cases e<;>first|trivial|exact h
 | .node c x y,h=>by
   have h1:=DT.drop_all h.1
   have h2:=DT.drop_all h.2
   simp only[DT.drop]
   cases hx:x.drop<;>cases hy:y.drop<;>rw[hx] at h1<;>rw[hy] at h2<;>first|trivial|exact h1|exact h2|exact⟨h1,h2⟩
 |.chk g t,h=>DT.drop_all (t:=t) h
 |.bad,_=>trivial
theorem DT.map_lf(f:DS→DS):∀ (t:DT),(t.map f).lf=t.lf.map fun x=>(x.1,f x.2)
 |.leaf _ _=>rfl
 | .node c a b=>by
   cases c
   · exact DT.map_lf f b
   · exact DT.map_lf f a
 |.chk _ t=>DT.map_lf f t
 |.bad=>rfl
theorem DT.map_ok(f:DS→DS):∀ (t:DT),(t.map f).ok=t.ok
 |.leaf _ _=>rfl
 |.node c a b=>by simp only[DT.map,DT.ok,DT.map_ok f a,DT.map_ok f b]
 |.chk _ t=>by simp only[DT.map,DT.ok,DT.map_ok f t]
 |.bad=>rfl
theorem DT.map_all{P Q:DS→Prop}{f:DS→DS}(h:∀ st,P st→Q (f st)):∀ {t:DT},t.All P→(t.map f).All Q
 |.leaf _ _,a=>h _ a
 |.node _ _ _,a=>⟨DT.map_all h a.1,DT.map_all h a.2⟩
 |.chk _ t,a=>DT.map_all h (t:=t) a
 |.bad,_=>trivial
theorem DT.unexit_ok(i:Nat):∀ (t:DT),(t.unexit i).ok=t.ok
 | .leaf e st=>by
   cases e<;>first|rfl|skip
   simp only[DT.unexit];split<;>rfl
 |.node c a b=>by simp only[DT.unexit,DT.ok,DT.unexit_ok i a,DT.unexit_ok i b]
 |.chk _ t=>by simp only[DT.unexit,DT.ok,DT.unexit_ok i t]
 |.bad=>rfl
def AExit.un(i:Nat):AExit→AExit
 |.exit j=>if j=i then .normal else .exit j
 |e=>e
theorem DT.unexit_lf(i:Nat):∀ (t:DT),(t.unexit i).lf=t.lf.map fun x=>(x.1.un i,x.2)
 | .leaf e st=>by
   cases e<;>first|rfl|skip
   rename_i j
   simp only[DT.unexit,DT.lf,BI,AExit.un]
   by_cases h:j=i
   · rw[Ab (by simpa using h),Ab h];rfl
   · rw[Ae (by simpa using h),Ae h];rfl
 | .node c a b=>by
   cases c
   · exact DT.unexit_lf i b
   · exact DT.unexit_lf i a
 |.chk _ t=>DT.unexit_lf i t
 |.bad=>rfl
theorem DT.unexit_all{P:DS→Prop}(i:Nat):∀ {t:DT},t.All P→(t.unexit i).All P
 | .leaf e st,a=>by
   cases e<;>first|exact a|skip
   simp only[DT.unexit];split<;>exact a
 |.node _ _ _,a=>⟨DT.unexit_all i a.1,DT.unexit_all i a.2⟩
 |.chk _ t,a=>DT.unexit_all i (t:=t) a
 |.bad,_=>trivial
theorem DT.chk_ok(g:PX)(t:DT):(DT.chk' g t).ok.den↔g.den∧t.ok.den:=by
 cases g<;>simp only[DT.chk',DT.ok,PX.land_den,PX.den,IM]
theorem DT.chk_lf(g:PX)(t:DT):(DT.chk' g t).lf=t.lf:=by cases g<;>rfl
theorem DT.chk_all{P:DS→Prop}(g:PX){t:DT}(h:t.All P):(DT.chk' g t).All P:=by cases g<;>exact h
theorem DT.bind_s{f:DS→DT}{h:DS→DS}:∀ {t:DT} {e:AExit} {st:DS},(t.bind f h).ok.den→(t.bind f h).lf=some (e,st) →
 t.ok.den∧((∃ st0,t.lf=some (.normal,st0)∧(f st0).ok.den∧(f st0).lf=some (e,st))∨(e.isN=false∧∃ st0,t.lf=some (e,st0)∧st=h st0))
 | .leaf e0 st0,e,st,ho,hl=>by
   cases e0 with
   |normal=>exact⟨trivial,.inl ⟨st0,rfl,ho,hl⟩⟩
   | ret=>
     simp only[DT.bind,DT.lf,Aj,Ak] at hl
     obtain⟨rfl,rfl⟩:=hl
     exact⟨trivial,.inr ⟨rfl,st0,rfl,rfl⟩⟩
   | exit i=>
     simp only[DT.bind,DT.lf,Aj,Ak] at hl
     obtain⟨rfl,rfl⟩:=hl
     exact⟨trivial,.inr ⟨rfl,st0,rfl,rfl⟩⟩
 | .node c a b,e,st,ho,hl=>by
   have ho:=(PX.if_den c _ _).mp ho
   cases c with
   | true=>
     obtain⟨h1,h2⟩:=DT.bind_s (t:=a) (ho.1 rfl) hl
     exact⟨(PX.if_den _ _ _).mpr ⟨fun _=>h1,fun h=>by cases h⟩,h2⟩
   | false=>
     obtain⟨h1,h2⟩:=DT.bind_s (t:=b) (ho.2 rfl) hl
     exact⟨(PX.if_den _ _ _).mpr ⟨fun h=>(by cases h),fun _=>h1⟩,h2⟩
 | .chk g t,e,st,ho,hl=>by
   have ho:=(PX.land_den g _).mp ho
   obtain⟨h1,h2⟩:=DT.bind_s (t:=t) ho.2 hl
   exact⟨(PX.land_den _ _).mpr ⟨ho.1,h1⟩,h2⟩
 |.bad,e,st,ho,hl=>ho.elim
theorem DT.bind_all{P Q:DS→Prop}{f:DS→DT}{h:DS→DS}(hf:∀ st,P st→(f st).All Q)(hh:∀ st,P st→Q (h st)):∀ {t:DT},t.All P→(t.bind f h).All Q
 |.leaf e st,a=>by cases e<;>first|exact hf _ a|exact hh _ a
 |.node _ _ _,a=>⟨DT.bind_all hf hh a.1,DT.bind_all hf hh a.2⟩
 |.chk _ t,a=>DT.bind_all hf hh (t:=t) a
 |.bad,_=>trivial
theorem DT.then_s{b:DS}{f:DS→DT}{h:DS→DS}{t:DT}{e:AExit}{st:DS}(hb:t.All (ChgS b))(ho:(t.then f h).ok.den)(hl:(t.then f h).lf=some (e,st)) :
 t.ok.den∧((∃ st0 m,t.lf=some (.normal,st0)∧(∀ s,ES st0 s→ES m s)∧ChgS b m∧(f m).ok.den∧(f m).lf=some (e,st))∨(e.isN=false∧∃ st0,t.lf=some (e,st0)∧st=h st0)):=by
 have viaBind:(t.bind f h).ok.den→(t.bind f h).lf=some (e,st)→t.ok.den∧((∃ st0 m,t.lf=some (.normal,st0)∧(∀ s,ES st0 s→ES m s)∧ChgS b m∧(f m).ok.den∧(f m).lf=some (e,st))∨(e.isN=false∧∃ st0,t.lf=some (e,st0)∧st=h st0)):=fun ho hl=>by
  obtain⟨h1,h2⟩:=DT.bind_s ho hl;refine⟨h1,h2.imp ?_ id⟩;rintro⟨st0,h3,h4,h5⟩;exact⟨st0,st0,h3,fun _ h=>h,hb.lf h3,h4,h5⟩
 unfold DT.then at ho hl
 split at ho
 · rename_i hn
   rw[Ab hn] at hl;exact viaBind ho hl
 · rename_i hn
   rw[Ae hn] at hl
   cases hm:t.norm with
   |none=>rw[hm] at ho hl;exact viaBind ho hl
   |fail=>rw[hm] at ho hl;exact viaBind ho hl
   | some m=>
     rw[hm] at ho hl;simp only[DT.chk_ok,DT.chk_lf] at ho hl;obtain⟨ho1,ho2⟩:=ho;refine⟨ho1,?_⟩;obtain⟨e0,st0,h0⟩:=DT.ok_lf ho1
     have nrm:e0.isN=true→(f m).ok.den→(f m).lf=some (e,st)→((∃ st0 m,t.lf=some (.normal,st0)∧(∀ s,ES st0 s→ES m s)∧ChgS b m∧(f m).ok.den∧(f m).lf=some (e,st))∨(e.isN=false∧∃ st0,t.lf=some (e,st0)∧st=h st0)):=fun he h1 h2=>by
      have he:e0= .normal:=by cases e0<;>first|rfl|cases he
      subst he;exact .inl ⟨st0,m,h0,fun s hs=>DT.norm_s hb hm h0 hs,DT.norm_chg hb hm,h1,h2⟩
     cases hc:t.cont with
     |none=>rw[hc] at ho2;exact ho2.elim
     | some c=>
       have hcs:=DT.cont_s hc h0
       cases c with
       | lit c=>
         cases c with
         |false=>rw[hc] at ho2;exact ho2.elim
         | true=>
           rw[hc] at ho2 hl;exact nrm hcs.symm ho2 hl
       | dyn c=>
         rw[hc] at ho2 hl;simp only[BX.b] at hcs;subst hcs;have ho2:=(PX.if_den _ _ _).mp ho2
         cases he:e0.isN with
         | true=>
           rw[he] at hl;exact nrm he (ho2.1 he) hl
         | false=>
           rw[he] at hl;simp only[DT.lf,DT.map_lf,DT.drop_lf h0 he,BI,Aj,Ak] at hl;obtain⟨rfl,rfl⟩:=hl;exact .inr ⟨he,st0,h0,rfl⟩
theorem DT.then_all{b:DS}{Q:DS→Prop}{f:DS→DT}{h:DS→DS}{t:DT}(hb:t.All (ChgS b))(hf:∀ st,ChgS b st→(f st).All Q)(hh:∀ st,ChgS b st→Q (h st)):(t.then f h).All Q:=by
 unfold DT.then;split
 · exact DT.bind_all hf hh hb
 · cases hm:t.norm with
   |none=>exact DT.bind_all hf hh hb
   |fail=>exact DT.bind_all hf hh hb
   | some m=>
     have h1:=hf m (DT.norm_chg hb hm);refine DT.chk_all _ ?_
     cases hc:t.cont with
     |none=>trivial
     | some c=>
       cases c with
       |lit c=>cases c<;>first|trivial|exact h1
       |dyn c=>exact⟨h1,DT.map_all hh (DT.drop_all hb)⟩
theorem bL(v:DV):v.enc.isAgg=v.isAgg:=by cases v<;>rfl
theorem bj{v:DV}(h:v.flatc=true):v.enc.flatc=true∧∀ q es,v.enc≠.sl q es:=by cases v<;>first|(cases h;done)|exact⟨rfl,fun _ _ h=>(by cases h)⟩
theorem bX{s:PS}{hd:Hd}{c:Nat}{v:PV}{os as:List PV}(h:v.flatc=true)(hr:Gw s hd (c+1) os as):Gw s hd c (v::os) (v::as):=by
 cases v<;>first|exact⟨rfl,h,hr⟩|(cases h;done)
theorem Ke{d:DS}{s:PS}(hs:ES d s){hd:Hd}:∀ (vs:List DV) (c:Nat) {g:PX} {os:List DV},ED d hd c vs=some (g,os)→g.den→Gw s hd c (DV.encL os) (DV.encL vs)
 | [],c,g,os,h,_=>by
   simp only[ED,Aj,Ak] at h;rw[← h.2];trivial
 | v :: vs,c,g,os,h,hg=>by
   have flat:v.flatc=true→(match ED d hd (c+1) vs with|some (g,os)=>some (g,v::os)|none=>none)=some (g,os)→Gw s hd c (DV.encL os) (DV.encL (v::vs)):=by
    intro hf h
    cases h1:ED d hd (c+1) vs with
    |none=>rw[h1] at h;cases h
    | some r=>
      obtain⟨g1,os1⟩:=r;rw[h1] at h;simp only[Aj,Ak] at h;obtain⟨rfl,rfl⟩:=h;exact bX (bj hf).1 (Ke hs vs (c+1) h1 hg)
   have flat':(if v.flatc=true then (match ED d hd (c+1) vs with|some (g,os)=>some (g,v::os)|none=>none) else none)=some (g,os)→Gw s hd c (DV.encL os) (DV.encL (v::vs)):=by
    intro h;split at h
    · exact flat (by assumption) h
    · cases h
   cases v with
   | sl q r l=>
     simp only[ED] at h;split at h
     · rename_i hq
       have hq:q= .bor hd [c] true:=by simpa [Df] using hq
       subst hq
       cases h1:ED d hd (c+1) vs with
       |none=>rw[h1] at h;split at h<;>simp_all
       | some r=>
         obtain⟨g1,os1⟩:=r;rw[h1] at h
         have hk:Bm d hd [c]≠.any:=by intro e;rw[e] at h;cases h
         have ek:=Fo hs hd [c] hk;split at h
         · rename_i r' l' g2 os2 e1 e2;simp only[Aj,Ak] at h e2;obtain⟨rfl,rfl⟩:=h;obtain⟨rfl,rfl⟩:=e2;have hg:=(PX.land_den _ _).mp hg;have hl:l.length=l'.length:=hg.1;refine⟨rfl,by rw[ek,e1];rfl,⟨_,rfl,?_⟩,Ke hs vs (c+1) h1 hg.2⟩;rw[BE,BE];exact hl
         · rename_i g2 os2 e1 e2;simp only[Aj,Ak] at h e2;obtain⟨rfl,rfl⟩:=h;obtain⟨rfl,rfl⟩:=e2;have hg:=(PX.land_den _ _).mp hg;have hl:l.length=0:=hg.1;refine⟨rfl,by rw[ek,e1];rfl,⟨_,rfl,?_⟩,Ke hs vs (c+1) h1 hg.2⟩;rw[BE];exact hl
         · cases h
     · cases h
   | nil q=>
     simp only[ED] at h;split at h
     · rename_i hq
       have hq:q= .bor hd [c] true:=by simpa [Df] using hq
       subst hq
       cases h1:ED d hd (c+1) vs with
       |none=>rw[h1] at h;split at h<;>simp_all
       | some r=>
         obtain⟨g1,os1⟩:=r;rw[h1] at h
         have hk:Bm d hd [c]≠.any:=by intro e;rw[e] at h;cases h
         have ek:=Fo hs hd [c] hk;split at h
         · rename_i r' l' g2 os2 e1 e2;simp only[Aj,Ak] at h e2;obtain⟨rfl,rfl⟩:=h;obtain⟨rfl,rfl⟩:=e2;have hg:=(PX.land_den _ _).mp hg;have hl:l'.length=0:=hg.1;refine⟨rfl,by rw[ek,e1];rfl,⟨_,rfl,?_⟩,Ke hs vs (c+1) h1 hg.2⟩;rw[BE];exact hl.symm
         · rename_i g2 os2 e1 e2;simp only[Aj,Ak] at h e2;obtain⟨rfl,rfl⟩:=h;obtain⟨rfl,rfl⟩:=e2;exact⟨rfl,by rw[ek,e1];rfl,⟨_,rfl,rfl⟩,Ke hs vs (c+1) h1 hg⟩
         · cases h
     · cases h
   |_=>exact flat' h
def DV.flag:List DV→Prop
 |[]=>True
 |.sl q _ _::r=>q= .own∧DV.flag r
 |_::r=>DV.flag r
theorem Rb:∀ (r:RT) (x:r.D),DV.flag (r.dv .own x)
 |.one t,x=>by cases t<;>first|trivial|exact⟨rfl,trivial⟩
 |.cons t r,x=>by cases t<;>first|exact⟨rfl,Rb r x.2⟩|exact Rb r x.2
theorem Se{hd:Hd}{D':DS}{K:PS→Prop}(hK:∀ s',ES D' s'→K s'):∀ (vs:List DV) (c:Nat) {d:DS} {s:PS},ES d s→FL hd c vs d=some D'→DV.flag vs→Jc hd c (DV.encL vs) K s
 | [],c,d,s,hs,h,_=>by
   simp only[FL,Aj] at h;subst h;exact hK _ hs
 | v :: vs,c,d,s,hs,h,hf=>by
   cases v with
   | sl q r l=>
     simp only[FL] at h
     have hk:Bm d hd [c]≠.any:=by intro e;rw[e] at h;cases h
     have ek:=Fo hs hd [c] hk
     have hn:FL hd (c+1) vs (Eu d (.sl q r l) hd [c])=some D'∧∃ es0,BZ s hd [c]= .sl .own es0:=by
      split at h
      · rename_i e1;exact⟨h,_,by rw[ek,e1];rfl⟩
      · rename_i e1;exact⟨h,_,by rw[ek,e1];rfl⟩
      · cases h
     obtain⟨rfl,hf⟩:=hf;exact⟨hn.2,Se hK vs (c+1) (Ix hs hd [c] (.sl .own r l) hk) hn.1 hf⟩
   |nil q=>cases h
   |_=>exact Se hK vs (c+1) hs h hf
theorem Rn:∀ (r:RT) (x y:r.D),Ih (RT.enc r x) (RT.enc r y)
 |.one t,x,y=>by cases t<;>first|exact⟨⟨_,rfl⟩,trivial⟩|exact⟨fun _ _ h=>(by cases h),trivial⟩
 |.cons t r,x,y=>by cases t<;>first|exact⟨⟨_,rfl⟩,Rn r x.2 y.2⟩|exact⟨fun _ _ h=>(by cases h),Rn r x.2 y.2⟩
theorem Vf:∀ {vs:List DV} {c:Nat} {hd:Hd} {b:Nat},Pg c vs=some (hd,b)→hd.sb=true
 |[],_,_,_,h=>by cases h
 | v :: vs,c,hd,b,h=>by
   unfold Pg at h
   split at h
   · cases h
   · split at h
     · rename_i hc
       simp only[Ah] at hc
       simp only[Aj,Ak] at h
       rw[← h.1];exact hc.2
     · cases h
   · split at h
     · rename_i hc
       simp only[Ah] at hc
       simp only[Aj,Ak] at h
       rw[← h.1];exact hc.2
     · cases h
   · rename_i h1;cases h1;exact Vf h
theorem fE {d d1:DS}{s:PS}(hs:ES d s){M:DMk}{x y:Opnd}{g:PX}{v:DV}(h:Ja M x y d=some (g,v,d1))(hg:g.den){dst:Option Nat}{k:PS→Prop}(hk:∀ s',ES d1 s'→k (s'.put dst v.enc)):SK M.P x y dst k s:=by
 unfold Ja at h;split at h
 · rename_i m hm;split at h
   · rename_i hc;simp only[Ah] at hc;split at h
     · rename_i hd b hh;split at h
       · rename_i g1 os ho;split at h
         · rename_i z hz;split at h
           · rename_i st' hS;simp only[Aj,Ak] at h;obtain⟨rfl,rfl,rfl⟩:=h;have hg:=(PX.land_den _ _).mp hg
             have hy:y.pev s.sl= .fl (.int .i64 m):=by
              have:=y.dev_ev hs;rw[hm] at this;exact this.of (by simp)
             have hx:x.pev s.sl=(x.dev d.sl).enc:=(x.dev_ev hs).of (by intro e;rw[e] at hc;cases hc.2);refine⟨m,hd,b,M.r.enc z,hy,?_,Vf hh,?_,?_,⟨z,rfl,hg.2,Rn _ _ _,?_⟩⟩
             · rw[hx,bL];exact eq_of_beq hc.1
             · rw[hx];exact UR _ hc.2
             · rw[hx,GR,← Kv hz];exact Ke hs _ b ho hg.1
             · rw[← OP];have hP:M.P.vd=M.vd:=rfl;refine Se (fun s' hs'=>?_) _ b hs hS (Rb _ _);have h:=hk s' hs';rw[hP]
               cases hvd:M.vd with
               |true=>rw[hvd] at h;exact h
               |false=>rw[hvd] at h;exact h
           · cases h
         · cases h
       · cases h
     · cases h
   · cases h
 · cases h
theorem On{hd:Hd}{D':DS}:∀ (vs:List DV) (c:Nat) {d:DS},FL hd c vs d=some D'→ChgS d D'
 | [],c,d,h=>by
   simp only[FL,Aj] at h
   subst h;exact ChgS.refl _
 | v :: vs,c,d,h=>by
   cases v with
   | sl q r l=>
     simp only[FL] at h
     split at h
     · exact(ChgS.setK _ _ _ _).trans (On vs _ h)
     · exact(ChgS.setK _ _ _ _).trans (On vs _ h)
     · cases h
   |nil q=>cases h
   |_=>exact On vs _ h
theorem bF{d d1:DS}{M:DMk}{x y:Opnd}{g:PX}{v:DV}(h:Ja M x y d=some (g,v,d1)):ChgS d d1:=by
 unfold Ja at h
 repeat' split at h
 all_goals first|(cases h;done)|skip
 all_goals
  simp only[Aj,Ak] at h
  obtain⟨_,_,rfl⟩:=h
  exact On _ _ (by assumption)
def O3(p:BB)(D:Ib):Prop:=∀ (args:List DV) (g:PX) (v:DV) (Q:PV→List (List PV)→Prop),D args=some (g,v)→g.den→(∀ H,Q v.enc H)→p (DV.encL args) [] Q
def Ei(p:BB)(D:Cv):Prop:=∀ (args:List DV) (b:List (List DV)) (g:PX) (v:DV) (H:List (List DV)) (Q:PV→List (List PV)→Prop),D args b=some (g,v,H)→g.den→Q v.enc (Es (Gp b H))→p (DV.encL args) (Es b) Q
inductive ObD where
 |nv (p:BB) (D:Ib)
 |wp (p:BB) (D:Cv)
def ObD.sound:ObD→Prop
 |.nv p D=>O3 p D
 |.wp p D=>Ei p D
def DOp.obs:DOp→List ObD
 |.a _ _ _=>[]
 |.aw _ _ _ _=>[]
 |.call _ _ p D _=>[.nv p D]
 |.mark _ _ _ _=>[]
 |.callp _ _ p D _=>[.wp p D]
 |.callv _ _ p D _ _ _=>[.wp p D]
def Ow:List DOper→List ObD
 |[]=>[]
 |o::r=>o.op.obs++Ow r
def DCode.obs:DCode→List ObD
 |.skip=>[]
 |.region ops=>Ow ops
 |.regionU ops=>Ow ops
 |.seq _ a b=>a.obs++b.obs
 |.cond _ a b=>a.obs++b.obs
 |.block _ a=>a.obs
 |.loop _ _ a=>a.obs
 |.exit _=>[]
 |.ret=>[]
def AllD:List ObD→Prop
 |[]=>True
 |o::r=>o.sound∧AllD r
theorem AllD.app:∀ {a b:List ObD},AllD (a++b)→AllD a∧AllD b
 |[],_,h=>⟨trivial,h⟩
 |_::_,_,⟨h1,h2⟩=>⟨⟨h1,(AllD.app h2).1⟩,(AllD.app h2).2⟩
theorem OO{d:DS}{s:PS}(hs:ES d s):∀ (args:List Opnd),Fs (Dx d.sl args)=true→args.map (·.pev s.sl)=DV.encL (Dx d.sl args)
 |[],_=>rfl
 | x::r,h=>by
   simp only[Dx,Fs,Ah] at h
   simp only[BG,Dx,DV.encL,OO hs r h.2]
   rw[(x.dev_ev hs).of (by intro e;rw[e] at h;cases h.1)]
theorem JL:∀ (l:List PV),l.any PV.hasPtr=PV.hasPtrL l
 |[]=>rfl
 |v::r=>by simp only[List.any_cons,PV.hasPtrL,JL r]
theorem Pa:∀ (l:List PV),l.map PV.fz=PV.fzL l
 |[]=>rfl
 |v::r=>by simp only[BG,PV.fzL,Pa r]
theorem Q7:∀ (l:List PV),(l.all fun v=>!v.hold)=!PV.holdL l
 |[]=>rfl
 |v::r=>by simp only[D2,PV.holdL,Q7 r,Bool.not_or]
mutual
theorem Ve:∀ (v:DV),v.deep=true→v.enc.deep=true
 |.undef,_|.bool _,_|.int _ _,_|.str _,_|.ifc _,_|.ptr _ _,_=>rfl
 |.nil q,h=>by cases q<;>first|rfl|cases h
 |.sl q r l,h=>by cases q<;>first|(cases h;done)|exact Q8 r l
 |.agg cs,h=>Qs cs h
 |.tup cs,h=>Qs cs h
theorem Qs:∀ (l:List DV),DV.deepL l=true→PV.deepL (DV.encL l)=true
 |[],_=>rfl
 | v::r,h=>by
   simp only[DV.deepL,Ah] at h
   simp only[DV.encL,PV.deepL,Ve v h.1,Qs r h.2,B8]
end
theorem RB(v:DV):v.enc.retc=v.retc:=by
 cases v<;>first|rfl|skip
 case nil q=>cases q<;>rfl
 case sl q r l=>cases q<;>rfl
theorem V4:∀ (l:List DV),Dw (DV.encL l)=Gj l
 |[]=>rfl
 |v::r=>by simp only[DV.encL,Dw,Gj,RB v,V4 r]
theorem dD(v:DV):v.enc.retok=v.retok:=by
 cases v<;>first|rfl|skip
 case nil q=>exact RB (.nil q)
 case sl q r l=>exact RB (.sl q r l)
 case agg cs=>exact V4 cs
theorem dQ{d:DS}{s:PS}(x:Opnd)(h:ES d s)(hk:∀ n,x= .t n→AR d.sl n≠.any):ES (I3 x d).2 (fzOut x s).2:=by
 cases x with
 |c v=>exact h
 | t n=>
   simp only[I3,Px,fzOut,S3];have hg:=(h.sl.get n).of (hk n rfl);rw[hg,GV,dD];by_cases ho:(AR d.sl n).own=true
   · simp only[ho,AE];by_cases hr:(AR d.sl n).retok=true
     · rw[Ab hr,Ab hr,← WQ];exact⟨(h.sl.put n (.inr rfl)).clr _,h.bx,h.hp⟩
     · rw[Ae hr,Ae hr];exact h
   · simp only[ho];exact h
theorem TR(v:DV):∀ (l:List DC) (k n:Nat),AR l n= .any→k≠n→AR (Cl l k v) n= .any
 |[],_,_,_,_=>rfl
 |_::_,0,0,_,hn=>absurd rfl hn
 |_::_,0,_+1,h,_=>h
 |_::_,_+1,0,h,_=>h
 |_::r,k+1,n+1,h,hn=>TR v r k n h (by simpa using hn)
theorem TI(hd:Hd):∀ (l:List DC) (n:Nat),AR l n= .any→AR (Cm hd l) n= .any
 |[],_,_=>rfl
 | c::_,0,h=>by
   have h:c.v= .any:=h
   simp only[Cm,h,DV.bor,Ax,AJ,AR]
 |_::r,n+1,h=>TI hd r n h
theorem ZE(x:Opnd)(d:DS)(n:Nat)(h:AR d.sl n= .any):AR (I3 x d).2.sl n= .any:=by
 cases x with
 |c v=>exact h
 | t k=>
   simp only[I3,Px];split
   · rename_i ho;split
     · refine TI _ _ _ (TR _ _ _ _ h ?_);rintro rfl;rw[h] at ho;cases ho
     · exact h
   · exact h
theorem TM:∀ (args:List Opnd) (d:DS) (n:Nat),AR d.sl n= .any→AR (C6 args d).sl n= .any
 |[],_,_,h=>h
 |x::r,d,n,h=>TM r _ n (ZE x d n h)
theorem N8:∀ (args:List Opnd) {d:DS} {s:PS},ES d s→(∀ x∈args,x.dev (C6 args d).sl≠.any)→ES (C6 args d) (fzArgs args s)
 |[],_,_,h,_=>h
 | x::r,d,s,h,hk=>by
   refine N8 r (dQ x h fun n hx hn=>?_) fun y hy=>hk y (List.mem_cons_of_mem _ hy)
   subst hx
   exact hk (.t n) (I5 ..) (TM (.t n::r) d n hn)
theorem NH{sl:List DC}:∀ {args:List Opnd},Fs (Dx sl args)=true→∀ x∈args,x.dev sl≠.any
 |[],_,_,hx=>by cases hx
 | a::r,h,x,hx=>by
   simp only[Dx,Fs,Ah] at h
   rcases BF.mp hx with rfl|hx
   · intro e;rw[e] at h;cases h.1
   · exact NH h.2 x hx
theorem DS.fzArgs_chg:∀ (args:List Opnd) (d:DS),ChgS d (C6 args d)
 |[],d=>ChgS.refl d
 |x::r,d=>(ChgS.fzOut x d).trans (DS.fzArgs_chg r _)
section
variable {E:AExit} {D':DS}
def MH(E:AExit)(D':DS)(K:DS→DT)(k:PS→Prop):Prop:=∀ d s,ES d s→(K d).ok.den→(K d).lf=some (E,D')→k s
theorem fI{D:Ib}{p:BB}(hp:O3 p D){args:List Opnd}{d d1:DS}{s:PS}{g:PX}{v:DV}{dst:Option Nat}{k:PS→Prop}(hs:ES d s)(h:I8 D args d=some (g,v,d1))(hg:g.den)(hk:∀ s',ES (d1.put dst v) s'→k s'):R9 p args dst k s:=by
 unfold I8 at h;simp only at h;split at h
 · rename_i hc;simp only[Ah,BU] at hc;obtain⟨h1,h2⟩:=hc;split at h
   · rename_i g1 v1 hD;split at h
     · rename_i hr;simp only[Ah,BU,B3] at hr;obtain⟨⟨hok,hnp⟩,hdp⟩:=hr;simp only[Aj,Ak] at h;obtain⟨rfl,rfl,rfl⟩:=h;have e:=OO hs args h1;refine⟨by rw[e,JL,HA,h2],by rw[e];exact NJ _ h1,?_⟩;rw[e,JL,HA,h2];simp only[Ax,AJ];rw[Pa,← J9]
       refine hp _ _ _ _ hD hg fun H=>⟨?_,?_⟩
       · rw[NL,hnp,Q7,Ld];rcases hdp with h|h
         · simp[Ve _ h]
         · simp[h]
       · rw[NL,hnp];simp only[Ax,AJ];exact hk _ (hs.put dst v1)
     · cases h
   · cases h
 · cases h
theorem Vk{D:Ib}{args:List Opnd}{d d1:DS}{g:PX}{v:DV}(h:I8 D args d=some (g,v,d1)):d1=d∧Fs (Dx d.sl args)=true:=by
 unfold I8 at h;simp only at h;split at h
 · rename_i hc;simp only[Ah] at hc;split at h
   · split at h
     · simp only[Aj,Ak] at h;exact⟨h.2.2.symm,hc.1⟩
     · cases h
   · cases h
 · cases h
theorem SX(q:Ql):∀ es,(PV.sl q es).isH=q.isH'∧∀ j o,(PV.ep q es j o).isH=q.isH':=by
 intro es
 cases q with
 |bor hd p t=>cases hd<;>exact⟨rfl,fun _ _=>rfl⟩
 |pre hd p=>cases hd<;>exact⟨rfl,fun _ _=>rfl⟩
 |_=>exact⟨rfl,fun _ _=>rfl⟩
mutual
theorem Wn:∀ (v:DV),v.enc.isH=v.isH
 |.nil q=>(SX q []).1
 |.sl q r l=>(SX q _).1
 |.ep q r l j o=>(SX q _).2 j o
 |.agg cs=>Q2 cs
 |.tup vs=>Q2 vs
 |.any|.undef|.bool _|.int _ _|.str _|.ifc _|.box _ _|.ptr _ _=>rfl
theorem Q2:∀ (l:List DV),PV.isHL (DV.encL l)=DV.isHL l
 |[]=>rfl
 |v::r=>by simp only[DV.encL,PV.isHL,DV.isHL,Wn v,Q2 r]
end
theorem EL.clrH:∀ {a:List DC} {b:List PV},EL a b→EL (Mm a) (Go.Ag.clrH b)
 |[],[],_=>trivial
 | c :: a,p::b,h=>by
   refine⟨?_,EL.clrH h.2⟩
   by_cases hc:c.v.isH=true
   · rw[Ab hc];exact .inl rfl
   · rw[Ae hc]
     rcases h.1 with h1|h1
     · exact .inl h1
     · rw[h1,Wn,Ae hc];exact .inr rfl
theorem EL.all:∀ {a:List DC} {b:List PV},EL a b→DV.okL (A0 a)=true→b=DV.encL (A0 a)
 |[],[],_,_=>rfl
 | c::a,p::b,h,hk=>by
   simp only[A0,DV.okL,Ah] at hk
   rcases h.1 with h1|h1
   · rw[h1] at hk;cases hk.1
   · simp only[A0,DV.encL];rw[h1,EL.all h.2 hk.2]
theorem EB.all:∀ {a:List (List DC)} {b:List (List PV)},EB a b→PA (E6 a)=true→b=Es (E6 a)
 |[],[],_,_=>rfl
 | c::a,p::b,h,hk=>by
   simp only[E6,PA,Ah] at hk
   have hl:0<c.length:=by rw[← Lo];exact BS hk.1.1
   simp only[E6,Es];rw[(h.1.to hl).all hk.1.2,EB.all h.2 hk.2]
theorem EL.mix:∀ (a:List DC) (vs:List DV),EL (Jh a vs) (DV.encL (DU (A0 a) vs))
 |[],vs=>by simp only[Jh,A0,DU];exact EL.news vs
 | c :: a,[]=>by
   have:∀ (a:List DC),EL a (DV.encL (A0 a)):=by
    intro a
    induction a with
    |nil=>exact trivial
    |cons x r ih=>exact⟨.inr rfl,ih⟩
   exact this (c::a)
 | c::a,v::vs=>by
   simp only[Jh,A0,DU];refine⟨?_,EL.mix a vs⟩;by_cases h:v.isAny=true
   · rw[Ab h,Ab h];exact .inr rfl
   · rw[Ae h,Ae h];exact .inr rfl
theorem EB.newsB:∀ (vs:List (List DV)),EB (Go.Ag.newsB vs) (Es vs)
 |[]=>trivial
 |v::r=>⟨.inr (EL.news v),EB.newsB r⟩
theorem EB.mix:∀ (a:List (List DC)) (vs:List (List DV)),EB (Ji a vs) (Es (Gp (E6 a) vs))
 |[],vs=>by simp only[Ji,E6,Gp];exact EB.newsB vs
 | c :: a,[]=>by
   have h0:∀ (a:List DC),Jh a []=a:=by intro a;cases a<;>rfl
   have h1:∀ (a:List DC),DU (A0 a) []=A0 a:=by intro a;cases a<;>rfl
   have:∀ (a:List (List DC)),EB a (Es (E6 a)):=by
    intro a
    induction a with
    |nil=>exact trivial
    | cons x r ih=>
      refine⟨.inr ?_,ih⟩;have:=EL.mix x [];rw[h0,h1] at this;exact this
   exact this (c::a)
 | c::a,v::vs=>by
   simp only[Ji,E6,Gp];exact⟨.inr (EL.mix c v),EB.mix a vs⟩
theorem Qp:∀ (a:List (List DV)),(Es a).length=a.length
 |[]=>rfl
 |_::r=>by simp only[Es,Bu,Qp r]
theorem U8:∀ (a vs:List (List DV)),a.length≤(Gp a vs).length
 |[],_=>IP _
 |_::_,[]=>A8 _
 |_::a,_::vs=>by simp only[Gp,Bu];exact Nat.succ_le_succ (U8 a vs)
theorem VP{D:Cv}{p:BB}(hp:Ei p D){args:List Opnd}{d d1:DS}{s:PS}{g:PX}{v:DV}{dst:Option Nat}{k:PS→Prop}(hs:ES d s)(h:G6 D args d=some (g,v,d1))(hg:g.den)(hk:∀ s',ES (d1.put dst v) s'→k s'):Mx p args dst k s:=by
 unfold G6 at h;simp only at h;split at h
 · rename_i hc;simp only[Ah,BU] at hc;obtain⟨⟨h1,h2⟩,h3⟩:=hc;have e:=OO hs args h1;have eh:=hs.hp.all h3
   have hun:((DV.encL (Dx d.sl args)).all fun v=>!v.hold)=true:=by rw[Q7,Ld,h2];rfl
   split at h
   · rename_i hpt;split at h
     · rename_i g1 v1 H hD;split at h
       · rename_i hr;simp only[Ah,BU] at hr;simp only[Aj,Ak] at h;obtain⟨rfl,rfl,rfl⟩:=h;refine⟨by rw[e];exact NJ _ h1,?_⟩;rw[e,JL,HA,hpt];simp only[AE];refine⟨hun,?_⟩;rw[Pa,← J9,eh];have hE:ES { d with sl:=Mm d.sl,hp:=Ji d.hp H } { s with sl:=Go.Ag.clrH s.sl,hp:=Es (Gp (E6 d.hp) H) }:=⟨hs.sl.clrH,hs.bx,EB.mix d.hp H⟩;refine hp _ _ _ _ _ _ hD hg ⟨?_,by rw[NL];exact hr.2,hk _ (hE.put dst v1)⟩;rw[Qp,Qp];exact U8 _ _
       · cases h
     · cases h
   · rename_i hpt;split at h
     · rename_i hl;have hl:d.hp=[]:=Em (by simpa using hl);split at h
       · rename_i g1 v1 H hD;split at h
         · rename_i hr;simp only[Aj,Ak] at h;obtain⟨rfl,rfl,rfl⟩:=h
           have hv:v1= .ptr 0 0:=by
            unfold DV.isP0 at hr;split at hr
            · rfl
            · cases hr
           subst hv
           have hsl:s.hp=[]:=by rw[eh,hl];rfl
           refine⟨by rw[e];exact NJ _ h1,?_⟩;rw[e,JL,HA];rw[Ae (by simpa using hpt)];rw[Pa,← J9]
           have:=hp _ [] _ _ _ (fun r H=>(((!r.hasPtr&&r.deep)||(DV.encL (Dx d.sl args)).all fun v=>!v.hold)=true)∧k (PS.put { s with hp:=if r.hasPtr then s.hp++H else s.hp } dst (if r.hasPtr then r.shift s.hp.length else r))) hD hg ⟨by rw[hun];simp,by
            have hE:ES { d with hp:=newsB H } { s with hp:=Es H }:=⟨hs.sl,hs.bx,EB.newsB H⟩;have:=hk _ (hE.put dst (.ptr 0 0))
            simpa [hsl,DV.enc,PV.hasPtr,PV.shift,Gp] using this⟩
           exact this
         · cases h
       · cases h
     · cases h
 · cases h
theorem VD{i c:Nat}{D:Cv}{args:List Opnd}{d d1:DS}{g:PX}{v:DV}(h:LW i c D args d=some (g,v,d1)) :
 DV.hasPtrL (Dx d.sl args)=true∧(Bm d (.b i) [c]).ownS=true∧G6 D args d=some (g,v,d1):=by
 unfold LW at h
 by_cases hc:(DV.hasPtrL (Dx d.sl args)&&(Bm d (.b i) [c]).ownS)=true
 · rw[Ab hc] at h
   rw[Ah] at hc;exact⟨hc.1,hc.2,h⟩
 · rw[Ae hc] at h;cases h
theorem N0{D:Cv}{args:List Opnd}{d d1:DS}{g:PX}{v:DV}(h:G6 D args d=some (g,v,d1)):ChgS d d1∧Fs (Dx d.sl args)=true:=by
 have cH:∀ (l:List DC),Chg l (Mm l):=by
  intro l
  induction l with
  |nil=>trivial
  | cons c r ih=>
    refine⟨?_,ih⟩;by_cases hc:c.v.isH=true
    · rw[Ab hc];exact .inl rfl
    · rw[Ae hc];exact .inr rfl
 have cN:∀ (x:List DC) (vs:List DV),Chg x (news vs):=by
  intro x vs
  induction vs generalizing x with
  |nil=>cases x<;>trivial
  | cons v r ih=>cases x with
    |nil=>exact⟨rfl,ih []⟩
    |cons c x=>exact⟨.inl rfl,ih x⟩
 have cM:∀ (a:List DC) (vs:List DV),Chg a (Jh a vs):=by
  intro a
  induction a with
  |nil=>intro vs;exact cN [] vs
  | cons c r ih=>
    intro vs
    cases vs with
    |nil=>exact Chg.refl _
    | cons v vs=>
      refine⟨?_,ih vs⟩;by_cases h:v.isAny=true
      · rw[Ab h];exact .inr rfl
      · rw[Ae h];exact .inl rfl
 have cNB:∀ (x:List (List DC)) (vs:List (List DV)),ChgB x (newsB vs):=by
  intro x vs
  induction vs generalizing x with
  |nil=>cases x<;>trivial
  | cons v r ih=>cases x with
    |nil=>exact⟨cN _ _,ih []⟩
    |cons c x=>exact⟨cN _ _,ih x⟩
 have cMB:∀ (a:List (List DC)) (vs:List (List DV)),ChgB a (Ji a vs):=by
  intro a
  induction a with
  |nil=>intro vs;exact cNB [] vs
  | cons c r ih=>
    intro vs
    cases vs with
    |nil=>exact ChgB.refl _
    |cons v vs=>exact⟨cM c v,ih vs⟩
 unfold G6 at h;simp only at h;split at h
 · rename_i hc;simp only[Ah] at hc;refine⟨?_,hc.1.1⟩;split at h
   · split at h
     · split at h
       · simp only[Aj,Ak] at h;obtain⟨_,_,rfl⟩:=h;exact⟨cH _,ChgB.refl _,cMB _ _⟩
       · cases h
     · cases h
   · split at h
     · split at h
       · split at h
         · simp only[Aj,Ak] at h;obtain⟨_,_,rfl⟩:=h;exact⟨Chg.refl _,ChgB.refl _,cNB _ _⟩
         · cases h
       · cases h
     · cases h
 · cases h
theorem Wl{d:DS}{s:PS}(x:Opnd)(hs:ES d s)(hk:x.dev d.sl≠.any)(ho:(x.dev d.sl).own=false):mvOut x s=((x.dev d.sl).enc,s):=by
 cases x with
 |c v=>simp only[mvOut,Opnd.dev];rw[Ol v hk]
 | t n=>
   have:=(hs.sl.get n).of hk;simp only[mvOut,Dy,this,GV,Opnd.dev] at ho ⊢;rw[Ae (by simp[ho])]
theorem O4{o:DOp}(ho:AllD o.obs){dst:Option Nat}{K:DS→DT}{k:PS→Prop}(hK:MH E D' K k):MH E D' (BW o dst K) (fun s=>Cb o.er dst k s):=by
 intro d s hs hok hl
 cases o with
 | call m f p D args=>
   simp only[BW] at hok hl;simp only[DOp.er,Cb]
   cases hc:I8 D args (if m=true then C6 args d else d) with
   |none=>rw[hc] at hok;exact hok.elim
   | some r=>
     obtain⟨g,v,d1⟩:=r;rw[hc] at hok hl;simp only[DT.chk_ok,DT.chk_lf] at hok hl;obtain⟨e1,e2⟩:=Vk hc
     have hs':ES (if m=true then C6 args d else d) (if m=true then fzArgs args s else s):=by
      cases m with
      |false=>exact hs
      |true=>exact N8 args hs (NH e2)
     exact fI ho.1 hs' hc hok.1 fun s' hs'=>hK _ _ hs' hok.2 hl
 | aw ws m o ty=>
   simp only[BW] at hok hl;simp only[DOp.er,Cb]
   cases hst:I0 ws m o ty d with
   |none=>rw[hst] at hok;exact hok.elim
   | some r=>
     obtain⟨g,v,d1⟩:=r;rw[hst] at hok hl;simp only[DT.chk_ok,DT.chk_lf] at hok hl;obtain⟨s',v0,e1,e2,e3⟩:=Zq hs hst hok.1;simp only[e1,e2];exact hK _ _ (e3.put dst v) hok.2 hl
 | mark f M x y=>
   simp only[BW] at hok hl;simp only[DOp.er,Cb]
   cases hst:Ja M x y d with
   |none=>rw[hst] at hok;exact hok.elim
   | some r=>
     obtain⟨g,v,d1⟩:=r;rw[hst] at hok hl;simp only[DT.chk_ok,DT.chk_lf] at hok hl
     exact fE hs hst hok.1 fun s' hs'=>hK _ _ (hs'.put dst v) hok.2 hl
 | callp m f p D args=>
   simp only[BW] at hok hl;simp only[DOp.er,Cb]
   cases hc:G6 D args (if m=true then C6 args d else d) with
   |none=>rw[hc] at hok;exact hok.elim
   | some r=>
     obtain⟨g,v,d1⟩:=r;rw[hc] at hok hl;simp only[DT.chk_ok,DT.chk_lf] at hok hl;obtain⟨e1,e2⟩:=N0 hc
     have hs':ES (if m=true then C6 args d else d) (if m=true then fzArgs args s else s):=by
      cases m with
      |false=>exact hs
      |true=>exact N8 args hs (NH e2)
     exact VP ho.1 hs' hc hok.1 fun s' hs'=>hK _ _ hs' hok.2 hl
 | callv m f p D args i c=>
   simp only[BW] at hok hl;simp only[DOp.er,Cb]
   cases hc:LW i c D args (if m=true then C6 args d else d) with
   |none=>rw[hc] at hok;exact hok.elim
   | some r=>
     obtain⟨g,v,d1⟩:=r;rw[hc] at hok hl;simp only[DT.chk_ok,DT.chk_lf] at hok hl;obtain⟨hcv,e0,hc⟩:=VD hc;obtain⟨e1,e2⟩:=N0 hc
     have hs':ES (if m=true then C6 args d else d) (if m=true then fzArgs args s else s):=by
      cases m with
      |false=>exact hs
      |true=>exact N8 args hs (NH e2)
     refine⟨⟨?_,?_⟩,VP ho.1 hs' hc hok.1 fun s' hs'=>hK _ _ hs' hok.2 hl⟩
     · rw[OO hs' args e2,JL,HA,hcv]
     · have:=Fo hs' (.b i) [c] (fun e=>by rw[e] at e0;cases e0);rw[this];unfold DV.ownS at e0;split at e0
       · rename_i r l h;rw[h];exact⟨_,rfl⟩
       · rename_i h;rw[h];exact⟨_,rfl⟩
       · cases e0
 | a m o ty=>
   have gen:(match AY m o ty d with|some (g,v,st)=>DT.chk' g (K (st.put dst v))|none=>DT.bad).ok.den→(match AY m o ty d with|some (g,v,st)=>DT.chk' g (K (st.put dst v))|none=>DT.bad).lf=some (E,D')→Cb (DOp.a m o ty).er dst k s:=by
    intro hok hl
    cases hst:AY m o ty d with
    |none=>rw[hst] at hok;exact hok.elim
    | some r=>
      obtain⟨g,v,d1⟩:=r;rw[hst] at hok hl;simp only[DT.chk_ok,DT.chk_lf] at hok hl;obtain⟨s',e1,e2⟩:=TX hs hst hok.1;simp only[DOp.er,Cb,e1];exact hK _ _ (e2.put dst v) hok.2 hl
   cases o<;>first|exact gen hok hl|skip
   case pick c a b=>
    clear gen;simp only[BW] at hok hl;have hc:=c.dev_ev hs
    have one:∀ (x:Opnd),(match AK x d with|(v,st)=>if v.ok=true then K (st.put dst v) else DT.bad).ok.den→(match AK x d with|(v,st)=>if v.ok=true then K (st.put dst v) else DT.bad).lf=some (E,D')→k ((mvOut x s).2.put dst (mvOut x s).1):=by
     intro x hok hl;by_cases hv:(AK x d).1.ok=true
     · simp only[Ab hv] at hok hl;obtain⟨m1,m2⟩:=Di x hs hv;rw[m1];exact hK _ _ (m2.put dst _) hok hl
     · simp only[Ae hv] at hok;exact hok.elim
    cases hcv:c.dev d.sl with
    | bool t=>
      rw[hcv] at hc;have hp:=hc.of (by simp);simp only[DOp.er,Cb,AU,hp,DV.enc]
      cases t with
      | lit t=>
        rw[hcv] at hok hl
        cases t with
        |true=>exact one a hok hl
        |false=>exact one b hok hl
      | dyn t=>
        rw[hcv] at hok hl;simp only at hok hl;split at hok
        · rename_i h;rw[Ab h] at hl;have hok:=(PX.if_den _ _ _).mp hok
          cases t with
          |true=>exact one a (hok.1 rfl) hl
          |false=>exact one b (hok.2 rfl) hl
        · rename_i h;rw[Ae h] at hl;simp only[G5,Cj,CZ] at h;obtain⟨⟨h1,h2⟩,h3⟩:=h
          have ka:a.dev d.sl≠.any:=by
           intro e;rw[e] at h3;cases hb:b.dev d.sl<;>rw[hb] at h3<;>cases h3
          have kb:b.dev d.sl≠.any:=by
           intro e;rw[e] at h3;cases hb:a.dev d.sl<;>rw[hb] at h3<;>cases h3
          have hm:Ca t (a.dev d.sl) (b.dev d.sl)≠.any:=by intro e;rw[e] at h3;cases h3
          have he:=(ON t (a.dev d.sl) (b.dev d.sl)).resolve_left hm;have:=hK _ _ (hs.put dst (Ca t (a.dev d.sl) (b.dev d.sl))) hok hl;rw[he] at this;simp only[BX.b]
          cases t with
          |true=>simp only[AE,Wl a hs ka h1];exact this
          |false=>simp only[Ax,AJ,Wl b hs kb h2];exact this
    |_=>rw[hcv] at hok;exact hok.elim
theorem V8{d:DS}{s:PS}{g:Nat}{b:Bool}(hs:ES d s)(h:Aa s.sl g= .fl (.bool b)):ES (Jd d g b) s:=by
 refine⟨?_,hs.bx,hs.hp⟩
 have:∀ {a:List DC} {l:List PV} (n:Nat),EL a l→Aa l n= .fl (.bool b)→EL (Cl a n (.bool (.lit b))) l:=by
  intro a
  induction a with
  |nil=>intro l n h _;exact h
  | cons c a ih=>
    intro l n h hg
    cases l with
    |nil=>exact h.elim
    | cons p l=>
      cases n with
      |zero=>exact⟨.inr hg,h.2⟩
      |succ n=>exact⟨h.1,ih n h.2 hg⟩
 exact this g hs.sl h
theorem fB{o:DOper}(ho:AllD o.op.obs){K:DS→DT}{k:PS→Prop}(hK:MH E D' K k):MH E D' (Kt o K) (fun s=>E5 o.er k s):=by
 intro d s hs hok hl
 have skip:∀ {d s},ES d s→(K (d.put o.dst (.tup []))).ok.den→(K (d.put o.dst (.tup []))).lf=some (E,D')→k (s.put o.dst (.tup [])):=fun hs hok hl=>hK _ _ (hs.put o.dst (.tup [])) hok hl
 unfold Kt at hok hl;unfold E5;simp only[DOper.er]
 cases hg:o.guard with
 |none=>rw[hg] at hok hl;exact O4 ho hK d s hs hok hl
 | some g=>
   obtain⟨g,want⟩:=g;rw[hg] at hok hl;simp only at hok hl ⊢;have hv:=hs.sl.get g
   cases hgv:AR d.sl g with
   | bool t=>
     rw[hgv] at hok hl hv;have hp:=hv.of (by simp);simp only[DV.enc] at hp;rw[hp];simp only
     cases t with
     | lit t=>
       simp only at hok hl;by_cases hw:t=want
       · rw[Ab (by simpa using hw)] at hok hl;rw[Ab (show (BX.lit t).b=want from hw)];exact O4 ho hK d s hs hok hl
       · rw[Ae (by simpa using hw)] at hok hl;rw[Ae (show ¬ (BX.lit t).b=want from hw)];exact skip hs hok hl
     | dyn t=>
       simp only[BX.b] at hp ⊢;have hok:=(PX.if_den _ _ _).mp hok;have hs2:=V8 hs hp
       cases t with
       | true=>
         have hok:=hok.1 rfl;simp only[DT.lf] at hl
         cases want with
         |true=>exact O4 ho hK _ s hs2 hok hl
         |false=>exact skip hs2 hok hl
       | false=>
         have hok:=hok.2 rfl;simp only[DT.lf] at hl
         cases want with
         |true=>exact skip hs2 hok hl
         |false=>exact O4 ho hK _ s hs2 hok hl
   | tup vs=>
     cases vs with
     | nil=>
       rw[hgv] at hok hl hv;have hp:=hv.of (by simp);simp only[DV.enc,DV.encL] at hp;rw[hp];exact skip hs hok hl
     |cons v r=>rw[hgv] at hok;exact hok.elim
   |_=>rw[hgv] at hok;exact hok.elim
theorem Sb:∀ (ops:List DOper),AllD (Ow ops)→∀ {k:PS→Prop},E= .normal→(∀ s,ES D' s→k s)→MH E D' (Gu ops) (fun s=>Gs (ops.map fun o=>o.er) k s)
 | [],_,k,hE,hk=>by
   intro d s hs hok hl
   simp only[Gu,DT.lf,Aj,Ak] at hl
   obtain⟨_,rfl⟩:=hl
   exact hk s hs
 | o::r,ho,k,hE,hk=>by
   obtain⟨h1,h2⟩:=ho.app
   exact fB h1 (Sb r h2 hE hk)
end
theorem dz{o:DOp}{dst:Option Nat}{K:DS→DT}{b:DS}(hK:∀ d,ChgS b d→(K d).All (ChgS b)):∀ d,ChgS b d→(BW o dst K d).All (ChgS b):=by
 intro d hd
 cases o with
 | call m f p D args=>
   simp only[BW]
   cases hc:I8 D args (if m=true then C6 args d else d) with
   |none=>trivial
   | some r=>
     obtain⟨g,v,d1⟩:=r;obtain⟨rfl,_⟩:=Vk hc;refine DT.chk_all _ (hK _ ((hd.trans ?_).trans (ChgS.put _ _ _)))
     cases m with
     |true=>exact DS.fzArgs_chg args d
     |false=>exact ChgS.refl d
 | aw ws m o ty=>
   simp only[BW]
   cases hst:I0 ws m o ty d with
   |none=>trivial
   | some r=>
     obtain⟨g,v,d1⟩:=r;exact DT.chk_all _ (hK _ ((hd.trans (aE hst)).trans (ChgS.put _ _ _)))
 | mark f M x y=>
   simp only[BW]
   cases hst:Ja M x y d with
   |none=>trivial
   | some r=>
     obtain⟨g,v,d1⟩:=r;exact DT.chk_all _ (hK _ ((hd.trans (bF hst)).trans (ChgS.put _ _ _)))
 | callp m f p D args=>
   simp only[BW]
   cases hc:G6 D args (if m=true then C6 args d else d) with
   |none=>trivial
   | some r=>
     obtain⟨g,v,d1⟩:=r;obtain⟨h1,_⟩:=N0 hc;refine DT.chk_all _ (hK _ (((hd.trans ?_).trans h1).trans (ChgS.put _ _ _)))
     cases m with
     |true=>exact DS.fzArgs_chg args d
     |false=>exact ChgS.refl d
 | callv m f p D args i c=>
   simp only[BW]
   cases hc:LW i c D args (if m=true then C6 args d else d) with
   |none=>trivial
   | some r=>
     obtain⟨g,v,d1⟩:=r;obtain⟨_,_,hc⟩:=VD hc;obtain⟨h1,_⟩:=N0 hc;refine DT.chk_all _ (hK _ (((hd.trans ?_).trans h1).trans (ChgS.put _ _ _)))
     cases m with
     |true=>exact DS.fzArgs_chg args d
     |false=>exact ChgS.refl d
 | a m o ty=>
   have gen:(match AY m o ty d with|some (g,v,st)=>DT.chk' g (K (st.put dst v))|none=>DT.bad).All (ChgS b):=by
    cases hst:AY m o ty d with
    |none=>trivial
    | some r=>
      obtain⟨g,v,d1⟩:=r;exact DT.chk_all _ (hK _ ((hd.trans (UJ hst)).trans (ChgS.put _ _ _)))
   cases o<;>first|exact gen|skip
   case pick c x y=>
    simp only[BW]
    have one:∀ (x:Opnd),(match AK x d with|(v,st)=>if v.ok=true then K (st.put dst v) else DT.bad).All (ChgS b):=by
     intro x;simp only;split
     · exact hK _ ((hd.trans (ChgS.mvOut x d)).trans (ChgS.put _ _ _))
     · trivial
    cases hcv:c.dev d.sl with
    | bool t=>
      cases t with
      |lit t=>cases t<;>exact one _
      | dyn t=>
        simp only;split
        · exact⟨one x,one y⟩
        · exact hK _ (hd.trans (ChgS.put _ _ _))
    |_=>trivial
theorem Q6(d:DS)(g:Nat)(t:Bool):ChgS d (Jd d g t):=⟨Chg.put _ _ _,ChgB.refl _,ChgB.refl _⟩
theorem bg{o:DOper}{K:DS→DT}{b:DS}(hK:∀ d,ChgS b d→(K d).All (ChgS b)):∀ d,ChgS b d→(Kt o K d).All (ChgS b):=by
 intro d hd;unfold Kt;have hp:=dz (o:=o.op) (dst:=o.dst) hK
 cases hg:o.guard with
 |none=>exact hp d hd
 | some g=>
   obtain⟨g,want⟩:=g;simp only
   cases hgv:AR d.sl g with
   | bool t=>
     cases t with
     | lit t=>
       simp only;split
       · exact hp d hd
       · exact hK _ (hd.trans (ChgS.put _ _ _))
     | dyn t=>
       have h1:=hd.trans (Q6 d g true);have h2:=hd.trans (Q6 d g false)
       cases want with
       |true=>exact⟨hp _ h1,hK _ (h2.trans (ChgS.put _ _ _))⟩
       |false=>exact⟨hK _ (h1.trans (ChgS.put _ _ _)),hp _ h2⟩
   | tup vs=>
     cases vs with
     |nil=>exact hK _ (hd.trans (ChgS.put _ _ _))
     |cons v r=>trivial
   |_=>trivial
theorem Q4{b:DS}:∀ (ops:List DOper) (d:DS),ChgS b d→(Gu ops d).All (ChgS b)
 |[],_,h=>h
 |_::r,d,h=>bg (Q4 r) d h
theorem WT:∀ (ops:List DOper) {d d':DS} {e:AExit},(Gu ops d).lf=some (e,d')→e= .normal:=by
 intro ops
 have pick : ∀ {K:DS→DT} {e:AExit} {d':DS},(∀ d,(K d).lf=some (e,d')→e= .normal)→∀ (o:DOp) (dst:Option Nat) (d:DS),(BW o dst K d).lf=some (e,d')→e= .normal:=by
  intro K e d' hK o dst d hl
  cases o with
  | call m f p D args=>
    simp only[BW] at hl;split at hl
    · rw[DT.chk_lf] at hl;exact hK _ hl
    · cases hl
  | aw ws m o ty=>
    simp only[BW] at hl;split at hl
    · rw[DT.chk_lf] at hl;exact hK _ hl
    · cases hl
  | mark f M x y=>
    simp only[BW] at hl;split at hl
    · rw[DT.chk_lf] at hl;exact hK _ hl
    · cases hl
  | callp m f p D args=>
    simp only[BW] at hl;split at hl
    · rw[DT.chk_lf] at hl;exact hK _ hl
    · cases hl
  | callv m f p D args i c=>
    simp only[BW] at hl;split at hl
    · rw[DT.chk_lf] at hl;exact hK _ hl
    · cases hl
  | a m o ty=>
    have gen:(match AY m o ty d with|some (g,v,st)=>DT.chk' g (K (st.put dst v))|none=>DT.bad).lf=some (e,d')→e= .normal:=by
     intro hl;split at hl
     · rw[DT.chk_lf] at hl;exact hK _ hl
     · cases hl
    cases o<;>first|exact gen hl|skip
    case pick c x y=>
     simp only[BW] at hl
     have one:∀ (x:Opnd),(match AK x d with|(v,st)=>if v.ok=true then K (st.put dst v) else DT.bad).lf=some (e,d')→e= .normal:=by
      intro x hl;simp only at hl;split at hl
      · exact hK _ hl
      · cases hl
     cases hcv:c.dev d.sl with
     | bool t=>
       rw[hcv] at hl
       cases t with
       |lit t=>cases t<;>exact one _ hl
       | dyn t=>
         simp only at hl;split at hl
         · cases t<;>exact one _ hl
         · exact hK _ hl
     |_=>rw[hcv] at hl;cases hl
 induction ops with
 | nil=>
   intro d d' e hl;simp only[Gu,DT.lf,Aj,Ak] at hl;exact hl.1.symm
 | cons o r ih=>
   intro d d' e hl
   have hr:∀ d,(Gu r d).lf=some (e,d')→e= .normal:=fun d h=>ih h
   simp only[Gu] at hl;unfold Kt at hl
   cases hg:o.guard with
   |none=>rw[hg] at hl;exact pick hr _ _ _ hl
   | some g=>
     obtain⟨g,want⟩:=g;rw[hg] at hl;simp only at hl
     cases hgv:AR d.sl g with
     | bool t=>
       rw[hgv] at hl
       cases t with
       | lit t=>
         simp only at hl;split at hl
         · exact pick hr _ _ _ hl
         · exact hr _ hl
       | dyn t=>
         cases t<;>cases want<;>first|exact pick hr _ _ _ hl|exact hr _ hl
     | tup vs=>
       rw[hgv] at hl
       cases vs with
       |nil=>exact hr _ hl
       |cons v r=>cases hl
     |_=>rw[hgv] at hl;cases hl
theorem EL.put1{v:DV}:∀ {a:List DC} {b:List PV} (n:Nat),EL a b→EV v (Aa b n)→EL (Cl a n v) b
 |[],_,_,h,_=>h
 |_::_,[],_,h,_=>h.elim
 |_::_,_::_,0,h,hv=>⟨hv,h.2⟩
 |_::_,_::_,n+1,h,hv=>⟨h.1,EL.put1 n h.2 hv⟩
theorem EBx.put1{v:DV}{a:List DC}{b:List PV}(n:Nat)(h:EBx a b)(hv:EV v (Aa b n)):EBx (Cl a n v) b:=by
 rcases h with rfl|h
 · exact .inl rfl
 · exact .inr (h.put1 n hv)
theorem EB.put1{v:List DC}:∀ {a:List (List DC)} {b:List (List PV)} (n:Nat),EB a b→EBx v (Am b n)→EB (DQ a n v) b
 |[],_,_,h,_=>h
 |_::_,[],_,h,_=>h.elim
 |_::_,_::_,0,h,hv=>⟨hv,h.2⟩
 |_::_,_::_,n+1,h,hv=>⟨h.1,EB.put1 n h.2 hv⟩
def PS.at(s:PS):Pl→PV
 |.s i=>Aa s.sl i
 |.b i c=>Aa (Am s.bx i) c
 |.h i c=>Aa (Am s.hp i) c
theorem EBx.get{a:List DC}{b:List PV}(n:Nat)(h:EBx a b):EV (AR a n) (Aa b n):=by
 rcases h with rfl|h
 · exact .inl rfl
 · exact h.get n
theorem ES.at{d:DS}{s:PS}(h:ES d s)(pl:Pl):EV (d.at pl) (s.at pl):=by
 cases pl with
 |s i=>exact h.sl.get i
 |b i c=>exact(h.bx.get i).get c
 |h i c=>exact(h.hp.get i).get c
theorem ES.wr{d:DS}{s:PS}(h:ES d s)(pl:Pl){v:DV}(hv:EV v (s.at pl)):ES (d.wr v pl) s:=by
 cases pl with
 |s i=>exact⟨h.sl.put1 i hv,h.bx,h.hp⟩
 |b i c=>exact⟨h.sl,h.bx.put1 i ((h.bx.get i).put1 c hv),h.hp⟩
 |h i c=>exact⟨h.sl,h.bx,h.hp.put1 i ((h.hp.get i).put1 c hv)⟩
theorem LV{q:Ql}{t:CT}{v:DV}{x:t.D}(h:t.ofQ q v=some x):(t.dv q x).enc=v.enc∧v≠.any:=by
 cases t with
 | int k=>
   cases v<;>try (cases h;done)
   rename_i k' n;have h':(if IntKind.same k k'=true then some n else none)=some x:=h;clear h;split at h'
   · rename_i hk;have:=OB hk;subst this
     have h':=BT h';subst h';exact⟨rfl,by simp⟩
   · cases h'
 | bool=>
   cases v<;>try (cases h;done)
   have h:=BT h;subst h;exact⟨rfl,by simp⟩
 | str=>
   cases v<;>try (cases h;done)
   have h:=BT h;subst h;exact⟨rfl,by simp⟩
 | ifc=>
   cases v<;>try (cases h;done)
   have h:=BT h;subst h;exact⟨rfl,by simp⟩
 | sl r=>
   cases v<;>try (cases h;done)
   case nil q'=>
    have h':(if Df q q'=true then some ([]:List r.D) else none)=some x:=h;clear h;split at h'
    · rename_i hq;have:=I4 hq;subst this
      have h':=BT h';subst h';exact⟨rfl,by simp⟩
    · cases h'
   case sl q' r' l=>
    have h':(if Df q q'=true then I7 (r':=r') (r:=r) l else none)=some x:=h;clear h;split at h'
    · rename_i hq;have:=I4 hq;subst this
      refine⟨?_,by simp⟩;show PV.sl q _=PV.sl q _;rw[(Oh h').2]
    · cases h'
theorem Pj:∀ {l:List (Ql×CT)} {vs:List DV} {x:AgX l},Dv l vs=some x→DV.encL (B0 l x)=DV.encL vs
 |[],[],_,_=>rfl
 | [a],[v],x,h=>by
   show [(a.2.dv a.1 x).enc]=[v.enc]
   rw[(LV (q:=a.1) (t:=a.2) h).1]
 | a :: b::r,v::vs,x,h=>by
   have h':(match a.2.ofQ a.1 v,Dv (b::r) vs with|some x,some y=>some (x,y)|_,_=>none)=some x:=h
   clear h
   cases h1:a.2.ofQ a.1 v with
   |none=>rw[h1] at h';cases h'
   | some p=>
     cases h2:Dv (b::r) vs with
     |none=>rw[h1,h2] at h';cases h'
     | some q=>
       rw[h1,h2] at h'
       have h':=BT h'
       subst h'
       show (a.2.dv a.1 p).enc::DV.encL (B0 (b::r) q)=v.enc::DV.encL vs
       rw[(LV h1).1,Pj h2]
theorem Mj{t:HT}{v:DV}{x:t.D}(h:t.of v=some x):(t.dv x).enc=v.enc∧v≠.any:=by
 cases t with
 |one q t=>exact LV (q:=q) (t:=t) h
 | agg l=>
   cases v<;>try (cases h;done)
   rename_i cs;refine⟨?_,by simp⟩;show PV.agg _=PV.agg _;rw[Pj (l:=l) h]
theorem SN{A:DS}{s:PS}(hA:ES A s):∀ (H:List Hole) {K:DS} {x:Fb H},ES K s→Ik A H=some x→ES (wrX K H x) s
 |[],K,x,hK,_=>hK
 | [a],K,x,hK,h=>by
   have h:a.t.of (A.at a.pl)=some x:=h
   obtain⟨h1,h2⟩:=Mj h
   refine hK.wr a.pl (.inr ?_)
   rw[h1,(hA.at a.pl).of h2]
 | a :: b::r,K,x,hK,h=>by
   have h':(match a.t.of (A.at a.pl),Ik A (b::r) with|some x,some y=>some (x,y)|_,_=>none)=some x:=h
   clear h
   cases h1:a.t.of (A.at a.pl) with
   |none=>rw[h1] at h';cases h'
   | some p=>
     cases h2:Ik A (b::r) with
     |none=>rw[h1,h2] at h';cases h'
     | some q=>
       rw[h1,h2] at h'
       have h':=BT h'
       subst h'
       obtain⟨h3,h4⟩:=Mj h1
       refine SN hA (b::r) (x:=q) (hK.wr a.pl (.inr ?_)) h2
       rw[h3,(hA.at a.pl).of h4]
theorem W3(d:DS)(v:DV)(pl:Pl):ChgS d (d.wr v pl):=by
 cases pl with
 |s i=>exact⟨Chg.put _ _ _,ChgB.refl _,ChgB.refl _⟩
 |b i c=>exact⟨Chg.refl _,ChgB.put _ _ (Chg.put _ _ _),ChgB.refl _⟩
 |h i c=>exact⟨Chg.refl _,ChgB.refl _,ChgB.put _ _ (Chg.put _ _ _)⟩
theorem Ws:∀ (H:List Hole) (d:DS) (x:Fb H),ChgS d (wrX d H x)
 |[],d,_=>ChgS.refl d
 |[a],d,_=>W3 d _ _
 |a::b::r,d,x=>(W3 d _ _).trans (Ws (b::r) _ _)
def LeC:List DC→List DC→Prop
 |[],[]=>True
 |k::a,b::r=>(k.v= .any∨k.v=b.v)∧LeC a r
 |_,_=>False
def LeB:List (List DC)→List (List DC)→Prop
 |[],[]=>True
 |k::a,b::r=>(k=[]∨LeC k b)∧LeB a r
 |_,_=>False
structure LeS (k b:DS):Prop where
 sl:LeC k.sl b.sl
 bx:LeB k.bx b.bx
 hp:LeB k.hp b.hp
theorem LeC.refl:∀ (k:List DC),LeC k k
 |[]=>trivial
 |_::r=>⟨.inr rfl,LeC.refl r⟩
theorem LeB.refl:∀ (k:List (List DC)),LeB k k
 |[]=>trivial
 |k::r=>⟨.inr (LeC.refl k),LeB.refl r⟩
theorem LeC.put{v:DV}:∀ {k b:List DC} (n:Nat),LeC k b→AR k n= .any→LeC k (Cl b n v)
 |[],[],_,h,_=>h
 |[],_::_,_,h,_=>h.elim
 |_::_,[],_,h,_=>h.elim
 |_::_,_::_,0,h,ha=>⟨.inl ha,h.2⟩
 |_::_,_::_,n+1,h,ha=>⟨h.1,LeC.put n h.2 ha⟩
theorem LeB.put{v:DV}:∀ {k b:List (List DC)} (i c:Nat),LeB k b→AR (A6 k i) c= .any→LeB k (DQ b i (Cl (A6 b i) c v))
 |[],[],_,_,h,_=>h
 |[],_::_,_,_,h,_=>h.elim
 |_::_,[],_,_,h,_=>h.elim
 |_::_,_::_,0,c,h,ha=>⟨h.1.imp id fun h=>h.put c ha,h.2⟩
 |_::_,_::_,n+1,c,h,ha=>⟨h.1,LeB.put n c h.2 ha⟩
theorem VE{v:DV}(h:v.isAny=true):v= .any:=by cases v<;>first|rfl|cases h
theorem LeS.wr{k b:DS}{v:DV}{pl:Pl}(h:LeS k b)(ha:(k.at pl).isAny=true):LeS k (b.wr v pl):=by
 have ha:=VE ha
 cases pl with
 |s i=>exact⟨h.sl.put i ha,h.bx,h.hp⟩
 |b i c=>exact⟨h.sl,h.bx.put i c ha,h.hp⟩
 |h i c=>exact⟨h.sl,h.bx,h.hp.put i c ha⟩
theorem LeS.wrX{k:DS}:∀ (H:List Hole) {b:DS} (x:Fb H),LeS k b→JZ k H=true→LeS k (Go.Ag.wrX b H x)
 |[],_,_,h,_=>h
 | [a],_,_,h,ha=>by
   simp only[JZ,Ah] at ha;exact h.wr ha.1
 | a :: b::r,_,x,h,ha=>by
   have ha':(k.at a.pl).isAny=true∧JZ k (b::r)=true:=by
    have:((k.at a.pl).isAny&&JZ k (b::r))=true:=ha;simpa [Ah] using this
   exact LeS.wrX (b::r) _ (h.wr ha'.1) ha'.2
theorem dw{a b:DV}(h:a.same b=true):a.enc=b.enc∧b≠.any:=by
 cases a<;>cases b<;>first|(cases h;done)|skip
 case undef.undef=>exact⟨rfl,by simp⟩
 case nil.nil q q'=>have:=I4 h;subst this;exact⟨rfl,by simp⟩
 case box.box=>simp only[DV.same,Ah,AD] at h;obtain⟨rfl,rfl⟩:=h;exact⟨rfl,by simp⟩
 case ptr.ptr=>simp only[DV.same,Ah,AD] at h;obtain⟨rfl,rfl⟩:=h;exact⟨rfl,by simp⟩
theorem R6:∀ {k b y:List DC} {p:List PV},MD k y=true→LeC k b→Chg (Go.Ag.clean b) y→EL y p→EL k p
 |[],_,[],p,_,_,_,h=>h
 |[],_,_::_,_,h,_,_,_=>by cases h
 |_::_,_,[],_,h,_,_,_=>by cases h
 |_::_,[],_::_,_,_,h,_,_=>h.elim
 |_::_,_::_,_::_,[],_,_,_,h=>h.elim
 | k :: a,b::r,y::l,q::p,h,hl,hc,he=>by
   simp only[MD,Ah,B3] at h;refine⟨?_,R6 h.2 hl.2 hc.2 he.2⟩;rcases h.1 with(h1|h1)|h1
   · exact .inl (VE h1)
   · rcases hl.1 with h2|h2
     · exact .inl h2
     · rcases hc.1 with h3|h3
       · simp[h3] at h1
       · have:y.v=k.v:=by rw[h3,h2]
         rcases he.1 with h4|h4
         · exact .inl (by rw[← this];exact h4)
         · exact .inr (by rw[← this];exact h4)
   · obtain⟨h2,h3⟩:=dw h1;rcases he.1 with h4|h4
     · exact absurd h4 h3
     · exact .inr (by rw[h2];exact h4)
theorem Sg:∀ {k b y:List (List DC)} {p:List (List PV)},MN k y=true→LeB k b→ChgB (Kr b) y→EB y p→EB k p
 |[],_,[],p,_,_,_,h=>h
 |[],_,_::_,_,h,_,_,_=>by cases h
 |_::_,_,[],_,h,_,_,_=>by cases h
 |_::_,[],_::_,_,_,h,_,_=>h.elim
 |_::_,_::_,_::_,[],_,_,_,h=>h.elim
 | k :: a,b::r,y::l,q::p,h,hl,hc,he=>by
   simp only[MN,Ah,B3,AD] at h
   refine⟨?_,Sg h.2 hl.2 hc.2 he.2⟩
   rcases h.1 with h1|h1
   · exact .inl (Em h1)
   · rcases hl.1 with h2|h2
     · exact .inl h2
     · rcases he.1 with h3|h3
       · subst h3
         cases k with
         |nil=>exact .inl rfl
         |cons=>cases h1
       · exact .inr (R6 h1 h2 hc.1 h3)
theorem gu{k b y:DS}{s:PS}(h:SU k y=true)(hl:LeS k b)(hc:ChgS b.clean y)(he:ES y s):ES k s:=by
 simp only[SU,Ah] at h;exact⟨R6 h.1.1 hl.sl hc.sl he.sl,Sg h.1.2 hl.bx hc.bx he.bx,Sg h.2 hl.hp hc.hp he.hp⟩
theorem RP(pl:Nat→Pl):∀ (n:Nat) (x y:List DC),Chg x (Hi pl n x y).2∧∀ p,EL x p→EL (Hi pl n x y).2 p
 |_,[],_=>⟨trivial,fun _ h=>h⟩
 |_,_::_,[]=>⟨Chg.refl _,fun _ h=>h⟩
 | n,x::a,y::b=>by
   obtain⟨h1,h2⟩:=RP pl (n+1) a b
   simp only[Hi]
   cases hr:Hi pl (n+1) a b with
   | mk H l=>
     rw[hr] at h1 h2
     cases Xw x.v y with
     |left=>exact⟨⟨.inr rfl,h1⟩,fun p h=>by cases p with|nil=>exact h|cons q p=>exact⟨h.1,h2 p h.2⟩⟩
     |hole t=>exact⟨⟨.inl rfl,h1⟩,fun p h=>by cases p with|nil=>exact h|cons q p=>exact⟨.inl rfl,h2 p h.2⟩⟩
     |kill=>exact⟨⟨.inl rfl,h1⟩,fun p h=>by cases p with|nil=>exact h|cons q p=>exact⟨.inl rfl,h2 p h.2⟩⟩
theorem RR(pl:Nat→Nat→Pl):∀ (n:Nat) (x y:List (List DC)),ChgB x (Je pl n x y).2∧∀ p,EB x p→EB (Je pl n x y).2 p
 |_,[],_=>⟨trivial,fun _ h=>h⟩
 |_,_::_,[]=>⟨ChgB.refl _,fun _ h=>h⟩
 | n, x :: a,y::b=>by
   obtain⟨h1,h2⟩:=RR pl (n+1) a b
   simp only[Je]
   cases hr:Je pl (n+1) a b with
   | mk H l=>
     rw[hr] at h1 h2
     simp only
     split
     · obtain⟨h3,h4⟩:=RP (pl n) 0 x y
       cases hc:Hi (pl n) 0 x y with
       | mk H' x'=>
         rw[hc] at h3 h4
         exact⟨⟨h3,h1⟩,fun p h=>by
          cases p with
          |nil=>exact h
          |cons q p=>exact⟨h.1.elim (fun e=>by subst e;cases y<;>(simp only[Hi] at hc;simp only[Ak] at hc;exact .inl hc.2.symm)) fun h=>.inr (h4 q h),h2 p h.2⟩⟩
     · exact⟨⟨by cases x<;>trivial,h1⟩,fun p h=>by cases p with|nil=>exact h|cons q p=>exact⟨.inl rfl,h2 p h.2⟩⟩
theorem WU(x y:DS):ChgS x (MJ x y).2∧∀ s,ES x s→ES (MJ x y).2 s:=by
 obtain⟨h1,h2⟩:=RP .s 0 x.sl y.sl;obtain⟨h3,h4⟩:=RR .b 0 x.bx y.bx;obtain⟨h5,h6⟩:=RR .h 0 x.hp y.hp;exact⟨⟨h1,h3,h5⟩,fun s h=>⟨h2 _ h.sl,h4 _ h.bx,h6 _ h.hp⟩⟩
theorem Rt{live:List Nat}{body:DS→DT}{A:DS}:∀ {n:Nat} {cur:DS} {H:List Hole} {K:DS},Mh live body A n cur=some (H,K)→∃ Y,MJ A Y=(H,K)
 | 0,cur,H,K,h=>by
   simp only[Mh] at h
   split at h
   · rename_i m _
     exact⟨_,BT h⟩
   · cases h
 | n + 1,cur,H,K,h=>by
   simp only[Mh] at h
   split at h
   · split at h
     · exact Rt h
     · cases h
   · cases h
theorem Qy(live:List Nat)(d:DS):ChgS d (CN live d):=⟨Chg.keep _ _ _,ChgB.refl _,ChgB.refl _⟩
theorem aY(live:List Nat)(d:DS):ChgS d (Ph live d):=⟨Chg.trim _ _ _,ChgB.refl _,ChgB.refl _⟩
theorem fp {live:List Nat} {n:Nat} {body:DS→DT} {pb:D6→PS→Prop} (hall:∀ d,(body d).All (ChgS d.clean))
 (hb:∀ d s e d' (k:D6),ES d s→(body d).ok.den→(body d).lf=some (e,d')→(∀ s',ES d' s'→k e s')→pb k s)
 {d d':DS} {s:PS} {e:AExit} {k:D6} (hs:ES d s) (hok:(Kz live n body d).ok.den) (hl:(Kz live n body d).lf=some (e,d')) (hk:∀ s',ES d' s'→k e s'):∃ n,Mn pb live k n s:=by
 have hA:ES (CN live d) { s with sl:=Db live 0 s.sl }:=hs.keep live
 unfold Kz at hok hl
 split at hok
 · rename_i hn
   rw[Ab hn] at hl;rw[DT.map_ok] at hok;rw[DT.map_lf] at hl;obtain⟨e0,d0,h0⟩:=DT.ok_lf hok;rw[h0] at hl;simp only[BI,Aj,Ak] at hl;obtain⟨rfl,rfl⟩:=hl
   have hn:(body (CN live d)).norm= .none:=by cases h:(body (CN live d)).norm<;>rw[h] at hn<;>first|rfl|cases hn
   have he:=DT.norm_none hn h0;refine⟨1,hb _ _ _ _ _ hA hok h0 fun s' hs'=>?_⟩
   cases e0<;>first|(cases he;done)|exact hk _ hs'.rem
 · rename_i hn
   rw[Ae hn] at hl;split at hok
   · exact hok.elim
   · rename_i H K hd;rw[hd] at hl;simp only at hl;obtain⟨Y,hY⟩:=Rt hd;split at hok
     · exact hok.elim
     · rename_i x0 hx0;rw[hx0] at hl;simp only at hl;split at hok
       · rename_i hh;rw[Ab hh] at hl;simp only[DT.ok,PX.land_den,PX.den] at hok;obtain⟨hlo,_⟩:=hok;simp only[DT.lf] at hl
         have hK:ES K { s with sl:=Db live 0 s.sl }:=by
          have:=(WU (CN live d) Y).2 _ hA;rw[hY] at this;exact this
         have h0:ES (wrX K H x0) { s with sl:=Db live 0 s.sl }:=SN hA H hK hx0;have hto:=hlo.to
         have hle:∀ x,LeS K (wrX K H x):=fun x=>LeS.wrX H x ⟨LeC.refl _,LeB.refl _,LeB.refl _⟩ hh
         have main:∀ {x y:Fb H},LoopTo (KD body K H) (Kx live body K H) (fun x=>(Xi live body K H x).den) x y →
          ((lT body K H y).drop.map (Ic (wrX K H y))).lf=some (e,d') →
          ∃ n,∀ s:PS,ES (wrX K H x) { s with sl:=Db live 0 s.sl }→Mn pb live k n s:=by
          intro x y h
          induction h with
          | stop hg hc=>
            rename_i x;intro hl;have hg:=((PX.land_den _ _).mp hg).1;obtain⟨e0,d0,h0⟩:=DT.ok_lf hg
            have he:e0.isN=false:=by
             unfold KD at hc
             cases hcc:(lT body K H x).cont with
             |none=>rw[DT.cont_none hcc] at h0;cases h0
             |some b=>rw[hcc] at hc;rw[← DT.cont_s hcc h0];exact hc
            rw[DT.map_lf,DT.drop_lf h0 he] at hl;simp only[BI,Aj,Ak] at hl;obtain⟨rfl,rfl⟩:=hl;refine⟨1,fun s hs=>hb _ _ _ _ _ hs hg h0 fun s' hs'=>?_⟩
            cases e0<;>first|(cases he;done)|exact hk _ hs'.rem
          | go hg hc h3 ih=>
            rename_i x y';intro hl;obtain⟨n,ih⟩:=ih hl;have hg2:=(PX.land_den _ _).mp hg;obtain⟨e0,d0,h0⟩:=DT.ok_lf hg2.1
            have he:e0= .normal:=by
             unfold KD at hc
             cases hcc:(lT body K H x).cont with
             |none=>rw[DT.cont_none hcc] at h0;cases h0
             | some b=>
               rw[hcc] at hc;have:=DT.cont_s hcc h0;rw[show b.b=true from hc] at this
               cases e0<;>first|rfl|cases this
            subst he;refine⟨n+1,fun s hs=>hb _ _ _ _ _ hs hg2.1 h0 fun s' hs'=>?_⟩;refine ih s' ?_;have hg3:=hg2.2
            cases hnm:(lT body K H x).norm with
            |none=>have:=DT.norm_none hnm h0;cases this
            |fail=>rw[hnm] at hg3;exact hg3.elim
            | some m=>
              rw[hnm] at hg3;simp only at hg3;split at hg3
              · rename_i hf;simp only[Ah] at hf;obtain⟨hf1,hf2⟩:=hf;have hm:ES m s':=DT.norm_s (hall _) hnm h0 hs';have hm2:=hm.keep live;have hch:ChgS (wrX K H x).clean (CN live m):=(DT.norm_chg (hall _) hnm).trans (Qy live m);have hK':=gu hf1 (hle x) hch hm2;obtain⟨y2,hy2⟩:=Option.isSome_iff_exists.mp hf2
                have hnx:Kx live body K H x=y2:=by unfold Kx;rw[hnm];simp only[hy2]
                rw[hnx];exact SN hm2 H hK' hy2
              · exact hg3.elim
         obtain⟨n,hn⟩:=main hto hl;exact⟨n,hn s h0⟩
       · exact hok.elim
theorem cg{live:List Nat}{n:Nat}{body:DS→DT}(hall:∀ d,(body d).All (ChgS d.clean))(d:DS):(Kz live n body d).All (ChgS d):=by
 unfold Kz;split
 · exact DT.map_all (fun st h=>(Qy live d).trans h.rem) (hall _)
 · split
   · trivial
   · rename_i H K hd;obtain⟨Y,hY⟩:=Rt hd;split
     · trivial
     · split
       · have hK:ChgS d K:=by
          have:=(WU (CN live d) Y).1;rw[hY] at this;exact(Qy live d).trans this
         exact DT.map_all (fun st h=>(hK.trans (Ws H K _)).trans h.rem) (DT.drop_all (hall _))
       · trivial
end
end Go.Ag
