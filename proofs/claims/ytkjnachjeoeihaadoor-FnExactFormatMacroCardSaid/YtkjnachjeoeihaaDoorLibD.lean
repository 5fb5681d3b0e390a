/- Part 4 of what FnExactFormatMacro needs. No conditions. -/
import Derived.Test.YtkjnachjeoeihaaDoorLibC
namespace Go.Ag
set_option linter.unusedSimpArgs false
set_option linter.unusedVariables false
noncomputable section
noncomputable section
def shut.{u}{α:Sort u}(a:α):{x:α // x=a}:=Classical.choice ⟨⟨a,rfl⟩⟩
section
variable {α:Type}
def kc(k:IntKind)(a b:Int):Int:=k.wrap (a+b)
def jN(k:IntKind)(a b:Int):Int:=k.wrap (a-b)
def ks(k:IntKind)(a b:Int):Int:=k.wrap (a*b)
def kr(k:IntKind)(a b:Int):Int:=k.wrap (a.tdiv b)
def kf(a b:Int):Int:=a.tmod b
def j8(k:IntKind)(a b:Int):Int:=k.wrap (BitVec.ofInt k.bits a &&& BitVec.ofInt k.bits b).toNat
def kT(k:IntKind)(a b:Int):Int:=k.wrap (BitVec.ofInt k.bits a ||| BitVec.ofInt k.bits b).toNat
def jO(k:IntKind)(a b:Int):Int:=k.wrap (BitVec.ofInt k.bits a ^^^ BitVec.ofInt k.bits b).toNat
def gm(k:IntKind)(a b:Int):Int:=k.wrap (BitVec.ofInt k.bits a &&& ~~~BitVec.ofInt k.bits b).toNat
def ko(k:IntKind)(a b:Int):Int:=k.wrap (a*2^min b.toNat k.bits)
def jV(k:IntKind)(a b:Int):Int:=a.fdiv (2^min b.toNat k.bits)
def kd(k:IntKind)(a:Int):Int:=k.wrap (0-a)
def jq(k:IntKind)(a:Int):Int:=k.wrap a
def kh(a b:Int):Int:=if b<a then b else a
def kF(a b:Int):Int:=if b > a then b else a
def jZ(a:Int):Nat:=a.toNat
def kU(a b:Int):Bool:=a == b
def kM(a b:Int):Bool:=a != b
def kI(a b:Int):Bool:=decide (a<b)
def kJ(a b:Int):Bool:=decide (a≤b)
def kK(a b:Int):Bool:=decide (a > b)
def kL(a b:Int):Bool:=decide (a≥b)
def jU(a b:List UInt8):List UInt8:=a++b
def kV(a b:List UInt8):Bool:=a == b
def kQ(a b:List UInt8):Bool:=!(a == b)
def kj(s:List UInt8)(j:Int):Int:=(s.getD j.toNat 0).toNat
def j9(s:List UInt8):List Int:=s.map fun b=>((b.toNat:Nat):Int)
def kt(l:List Int):List UInt8:=l.map fun n=>UInt8.ofNat n.toNat
def jT(l:List α):Int:=l.length
def kW(l:List α):Nat:=l.length
def kx(l:List α)(j:Nat)(d:α):α:=l.getD j d
def km(l:List α)(j:Nat)(x:α):List α:=l.set j x
def kg(l:List α)(a b:Nat):List α:=(l.drop a).take (b-a)
def js(l:List α)(n:Nat):List α:=l.take n
def kE(l m:List α):List α:=l++m
def j0(n:Int)(x:α):List α:=List.replicate n.toNat x
def jS(a:Bool):Bool:=!a
def jW(a b:Bool):Bool:=a&&b
def kH(a b:Bool):Bool:=a||b
def ku(a b:Bool):Bool:=a == b
def j6(c:Bool)(x y:α):α:=bif c then x else y
end
structure Leaf where
 iAdd:∀ (k:IntKind) (a b:Int),Int
 iSub:∀ (k:IntKind) (a b:Int),Int
 iMul:∀ (k:IntKind) (a b:Int),Int
 iQuo:∀ (k:IntKind) (a b:Int),Int
 iRem:∀ (a b:Int),Int
 iAnd:∀ (k:IntKind) (a b:Int),Int
 iOr:∀ (k:IntKind) (a b:Int),Int
 iXor:∀ (k:IntKind) (a b:Int),Int
 iAndNot:∀ (k:IntKind) (a b:Int),Int
 iShl:∀ (k:IntKind) (a b:Int),Int
 iShr:∀ (k:IntKind) (a b:Int),Int
 iNeg:∀ (k:IntKind) (a:Int),Int
 iConv:∀ (k:IntKind) (a:Int),Int
 iMin:∀ (a b:Int),Int
 iMax:∀ (a b:Int),Int
 iNat:∀ (a:Int),Nat
 iEq:∀ (a b:Int),Bool
 iNe:∀ (a b:Int),Bool
 iLt:∀ (a b:Int),Bool
 iLe:∀ (a b:Int),Bool
 iGt:∀ (a b:Int),Bool
 iGe:∀ (a b:Int),Bool
 sAdd:∀ (a b:List UInt8),List UInt8
 sEq:∀ (a b:List UInt8),Bool
 sNe:∀ (a b:List UInt8),Bool
 sGet:∀ (s:List UInt8) (j:Int),Int
 sRow:∀ (s:List UInt8),List Int
 rowS:∀ (l:List Int),List UInt8
 lLen:∀ {α:Type} (l:List α),Int
 lN:∀ {α:Type} (l:List α),Nat
 lGet:∀ {α:Type} (l:List α) (j:Nat) (d:α),α
 lSet:∀ {α:Type} (l:List α) (j:Nat) (x:α),List α
 lSub:∀ {α:Type} (l:List α) (a b:Nat),List α
 lTake:∀ {α:Type} (l:List α) (n:Nat),List α
 lApp:∀ {α:Type} (l m:List α),List α
 lRep:∀ {α:Type} (n:Int) (x:α),List α
 bNot:∀ (a:Bool),Bool
 bAnd:∀ (a b:Bool),Bool
 bOr:∀ (a b:Bool),Bool
 bIff:∀ (a b:Bool),Bool
 bSel:∀ {α:Type} (c:Bool) (x y:α),α
def Xg:Leaf:=⟨@kc,@jN,@ks,@kr,@kf,@j8,@kT,@jO,@gm,@ko,@jV,@kd,@jq,@kh,@kF,@jZ,@kU,@kM,@kI,@kJ,@kK,@kL,@jU,@kV,@kQ,@kj,@j9,@kt,@jT,@kW,@kx,@km,@kg,@js,@kE,@j0,@jS,@jW,@kH,@ku,@j6⟩
def Ao:{l:Leaf // l=Xg}:=Classical.choice ⟨⟨Xg,rfl⟩⟩
section
variable {α:Type}
@[irreducible] def iAdd(k:IntKind)(a b:Int):Int:=Ao.1.iAdd k a b
theorem W4(k:IntKind)(a b:Int):iAdd k a b=(k.wrap (a+b)):=by unfold iAdd;rw[Ao.2];rfl
@[irreducible] def iSub(k:IntKind)(a b:Int):Int:=Ao.1.iSub k a b
theorem WZ(k:IntKind)(a b:Int):iSub k a b=(k.wrap (a-b)):=by unfold iSub;rw[Ao.2];rfl
@[irreducible] def iMul(k:IntKind)(a b:Int):Int:=Ao.1.iMul k a b
theorem jB(k:IntKind)(a b:Int):iMul k a b=(k.wrap (a*b)):=by unfold iMul;rw[Ao.2];rfl
@[irreducible] def iQuo(k:IntKind)(a b:Int):Int:=Ao.1.iQuo k a b
theorem WM(k:IntKind)(a b:Int):iQuo k a b=(k.wrap (a.tdiv b)):=by unfold iQuo;rw[Ao.2];rfl
@[irreducible] def iRem(a b:Int):Int:=Ao.1.iRem a b
theorem Xd(a b:Int):iRem a b=(a.tmod b):=by unfold iRem;rw[Ao.2];rfl
@[irreducible] def iAnd(k:IntKind)(a b:Int):Int:=Ao.1.iAnd k a b
theorem jy(k:IntKind)(a b:Int):iAnd k a b=(k.wrap (BitVec.ofInt k.bits a &&& BitVec.ofInt k.bits b).toNat):=by unfold iAnd;rw[Ao.2];rfl
@[irreducible] def iOr(k:IntKind)(a b:Int):Int:=Ao.1.iOr k a b
theorem kD(k:IntKind)(a b:Int):iOr k a b=(k.wrap (BitVec.ofInt k.bits a ||| BitVec.ofInt k.bits b).toNat):=by unfold iOr;rw[Ao.2];rfl
@[irreducible] def iXor(k:IntKind)(a b:Int):Int:=Ao.1.iXor k a b
theorem jf(k:IntKind)(a b:Int):iXor k a b=(k.wrap (BitVec.ofInt k.bits a ^^^ BitVec.ofInt k.bits b).toNat):=by unfold iXor;rw[Ao.2];rfl
@[irreducible] def iAndNot(k:IntKind)(a b:Int):Int:=Ao.1.iAndNot k a b
theorem dL(k:IntKind)(a b:Int):iAndNot k a b=(k.wrap (BitVec.ofInt k.bits a &&& ~~~BitVec.ofInt k.bits b).toNat):=by unfold iAndNot;rw[Ao.2];rfl
@[irreducible] def iShl(k:IntKind)(a b:Int):Int:=Ao.1.iShl k a b
theorem jm(k:IntKind)(a b:Int):iShl k a b=(k.wrap (a*2^min b.toNat k.bits)):=by unfold iShl;rw[Ao.2];rfl
@[irreducible] def iShr(k:IntKind)(a b:Int):Int:=Ao.1.iShr k a b
theorem jg(k:IntKind)(a b:Int):iShr k a b=(a.fdiv (2^min b.toNat k.bits)):=by unfold iShr;rw[Ao.2];rfl
@[irreducible] def iNeg(k:IntKind)(a:Int):Int:=Ao.1.iNeg k a
theorem jH(k:IntKind)(a:Int):iNeg k a=(k.wrap (0-a)):=by unfold iNeg;rw[Ao.2];rfl
@[irreducible] def iConv(k:IntKind)(a:Int):Int:=Ao.1.iConv k a
theorem V6(k:IntKind)(a:Int):iConv k a=(k.wrap a):=by unfold iConv;rw[Ao.2];rfl
@[irreducible] def iMin(a b:Int):Int:=Ao.1.iMin a b
theorem jF(a b:Int):iMin a b=(if b<a then b else a):=by unfold iMin;rw[Ao.2];rfl
@[irreducible] def iMax(a b:Int):Int:=Ao.1.iMax a b
theorem jD(a b:Int):iMax a b=(if b > a then b else a):=by unfold iMax;rw[Ao.2];rfl
@[irreducible] def iNat(a:Int):Nat:=Ao.1.iNat a
theorem Sn(a:Int):iNat a=(a.toNat):=by unfold iNat;rw[Ao.2];rfl
@[irreducible] def iEq(a b:Int):Bool:=Ao.1.iEq a b
theorem Pj(a b:Int):iEq a b=(a == b):=by unfold iEq;rw[Ao.2];rfl
@[irreducible] def iNe(a b:Int):Bool:=Ao.1.iNe a b
theorem Xi(a b:Int):iNe a b=(a != b):=by unfold iNe;rw[Ao.2];rfl
@[irreducible] def iLt(a b:Int):Bool:=Ao.1.iLt a b
theorem Xy(a b:Int):iLt a b=(decide (a<b)):=by unfold iLt;rw[Ao.2];rfl
@[irreducible] def iLe(a b:Int):Bool:=Ao.1.iLe a b
theorem Xz(a b:Int):iLe a b=(decide (a≤b)):=by unfold iLe;rw[Ao.2];rfl
@[irreducible] def iGt(a b:Int):Bool:=Ao.1.iGt a b
theorem Xm(a b:Int):iGt a b=(decide (a > b)):=by unfold iGt;rw[Ao.2];rfl
@[irreducible] def iGe(a b:Int):Bool:=Ao.1.iGe a b
theorem Xj(a b:Int):iGe a b=(decide (a≥b)):=by unfold iGe;rw[Ao.2];rfl
@[irreducible] def sAdd(a b:List UInt8):List UInt8:=Ao.1.sAdd a b
theorem W2(a b:List UInt8):sAdd a b=(a++b):=by unfold sAdd;rw[Ao.2];rfl
@[irreducible] def sEq(a b:List UInt8):Bool:=Ao.1.sEq a b
theorem Xn(a b:List UInt8):sEq a b=(a == b):=by unfold sEq;rw[Ao.2];rfl
@[irreducible] def sNe(a b:List UInt8):Bool:=Ao.1.sNe a b
theorem Xu(a b:List UInt8):sNe a b=(!(a == b)):=by unfold sNe;rw[Ao.2];rfl
@[irreducible] def sGet(s:List UInt8)(j:Int):Int:=Ao.1.sGet s j
theorem WN(s:List UInt8)(j:Int):sGet s j=((s.getD j.toNat 0).toNat):=by unfold sGet;rw[Ao.2];rfl
@[irreducible] def sRow(s:List UInt8):List Int:=Ao.1.sRow s
theorem WE(s:List UInt8):sRow s=(s.map fun b=>((b.toNat:Nat):Int)):=by unfold sRow;rw[Ao.2];rfl
@[irreducible] def rowS(l:List Int):List UInt8:=Ao.1.rowS l
theorem WG(l:List Int):rowS l=(l.map fun n=>UInt8.ofNat n.toNat):=by unfold rowS;rw[Ao.2];rfl
@[irreducible] def lLen(l:List α):Int:=Ao.1.lLen l
theorem Sa(l:List α):lLen l=(l.length):=by unfold lLen;rw[Ao.2];rfl
@[irreducible] def lN(l:List α):Nat:=Ao.1.lN l
theorem MJ(l:List α):lN l=(l.length):=by unfold lN;rw[Ao.2];rfl
@[irreducible] def lGet(l:List α)(j:Nat)(d:α):α:=Ao.1.lGet l j d
theorem Ko(l:List α)(j:Nat)(d:α):lGet l j d=(l.getD j d):=by unfold lGet;rw[Ao.2];rfl
@[irreducible] def lSet(l:List α)(j:Nat)(x:α):List α:=Ao.1.lSet l j x
theorem Mc(l:List α)(j:Nat)(x:α):lSet l j x=(l.set j x):=by unfold lSet;rw[Ao.2];rfl
@[irreducible] def lSub(l:List α)(a b:Nat):List α:=Ao.1.lSub l a b
theorem Sc(l:List α)(a b:Nat):lSub l a b=((l.drop a).take (b-a)):=by unfold lSub;rw[Ao.2];rfl
@[irreducible] def lTake(l:List α)(n:Nat):List α:=Ao.1.lTake l n
theorem Rr(l:List α)(n:Nat):lTake l n=(l.take n):=by unfold lTake;rw[Ao.2];rfl
@[irreducible] def lApp(l m:List α):List α:=Ao.1.lApp l m
theorem I0(l m:List α):lApp l m=(l++m):=by unfold lApp;rw[Ao.2];rfl
@[irreducible] def lRep(n:Int)(x:α):List α:=Ao.1.lRep n x
theorem WY(n:Int)(x:α):lRep n x=(List.replicate n.toNat x):=by unfold lRep;rw[Ao.2];rfl
@[irreducible] def bNot(a:Bool):Bool:=Ao.1.bNot a
theorem Kk(a:Bool):bNot a=(!a):=by unfold bNot;rw[Ao.2];rfl
@[irreducible] def bAnd(a b:Bool):Bool:=Ao.1.bAnd a b
theorem R6(a b:Bool):bAnd a b=(a&&b):=by unfold bAnd;rw[Ao.2];rfl
@[irreducible] def bOr(a b:Bool):Bool:=Ao.1.bOr a b
theorem Xt(a b:Bool):bOr a b=(a||b):=by unfold bOr;rw[Ao.2];rfl
@[irreducible] def bIff(a b:Bool):Bool:=Ao.1.bIff a b
theorem WD(a b:Bool):bIff a b=(a == b):=by unfold bIff;rw[Ao.2];rfl
@[irreducible] def bSel(c:Bool)(x y:α):α:=Ao.1.bSel c x y
theorem R9(c:Bool)(x y:α):bSel c x y=(bif c then x else y):=by unfold bSel;rw[Ao.2];rfl
end
mutual
inductive CT where
 |int (k:IntKind)|bool|str|ifc|sl (r:RT)
inductive RT where
 |one (t:CT)|cons (t:CT) (r:RT)
end
abbrev FE:RT:=.cons (.int .i64) (.cons (.int .i64) (.one (.int .i64)))
abbrev lq:RT:=.cons (.int .i64) (.cons (.int .i64) (.cons (.int .i64) (.one (.int .i64))))
abbrev KT:RT:=.cons (.int .i64) (.cons (.int .i64) (.cons (.int .i64) (.cons (.int .i64) (.one (.int .i64)))))
mutual
def CT.D:CT→Type
 |.int _=>Int
 |.bool=>Bool
 |.str=>List UInt8
 |.ifc=>Bool
 |.sl r=>List r.D
def RT.D:RT→Type
 |.one t=>t.D
 |.cons t r=>t.D×r.D
end
def RT.w:RT→Nat
 |.one _=>1
 |.cons _ r=>r.w+1
def CT.dflt:(t:CT)→t.D
 |.int _=>(0:Int)
 |.bool=>false
 |.str=>([]:List UInt8)
 |.ifc=>true
 |.sl r=>([]:List r.D)
def RT.dflt:(r:RT)→r.D
 |.one t=>t.dflt
 |.cons t r=>(t.dflt,r.dflt)
mutual
def CT.beq:CT→CT→Bool
 |.int k,.int k'=>decide (k=k')
 |.bool,.bool=>true
 |.str,.str=>true
 |.ifc,.ifc=>true
 |.sl r,.sl r'=>RT.beq r r'
 |_,_=>false
def RT.beq:RT→RT→Bool
 |.one t,.one t'=>CT.beq t t'
 |.cons t r,.cons t' r'=>CT.beq t t'&&RT.beq r r'
 |_,_=>false
end
mutual
theorem CT.beq_eq:∀ {a b:CT},CT.beq a b=true→a=b
 |.int k,.int k',h=>by simp only[CT.beq,Bl] at h;rw[h]
 |.bool,.bool,_=>rfl
 |.str,.str,_=>rfl
 |.ifc,.ifc,_=>rfl
 |.sl r,.sl r',h=>by rw[RT.beq_eq (a:=r) (b:=r') h]
 |.int _,.bool,h|.int _,.str,h|.int _,.ifc,h|.int _,.sl _,h=>by cases h
 |.bool,.int _,h|.bool,.str,h|.bool,.ifc,h|.bool,.sl _,h=>by cases h
 |.str,.int _,h|.str,.bool,h|.str,.ifc,h|.str,.sl _,h=>by cases h
 |.ifc,.int _,h|.ifc,.bool,h|.ifc,.str,h|.ifc,.sl _,h=>by cases h
 |.sl _,.int _,h|.sl _,.bool,h|.sl _,.str,h|.sl _,.ifc,h=>by cases h
theorem RT.beq_eq:∀ {a b:RT},RT.beq a b=true→a=b
 |.one t,.one t',h=>by rw[CT.beq_eq (a:=t) (b:=t') h]
 | .cons t r,.cons t' r',h=>by
   simp only[RT.beq,Ah] at h
   rw[CT.beq_eq h.1,RT.beq_eq h.2]
 |.one _,.cons _ _,h=>by cases h
 |.cons _ _,.one _,h=>by cases h
end
def Jd{r' r:RT}(l:List r'.D):Option (List r.D):=if h:RT.beq r' r=true then some ((congrArg (fun x:RT=>List x.D) (RT.beq_eq h)).mp l) else none
inductive BX where
 |lit (b:Bool)|dyn (b:Bool)
def BX.b:BX→Bool
 |.lit b=>b
 |.dyn b=>b
inductive DV where
 |any
 |undef
 |bool (b:BX)
 |int (k:IntKind) (n:Int)
 |str (s:List UInt8)
 |ifc (b:Bool)
 |nil (q:Ql)
 |sl (q:Ql) (r:RT) (l:List r.D)
 |ep (q:Ql) (r:RT) (l:List r.D) (j o:Nat)
 |box (i o:Nat)
 |ptr (i o:Nat)
 |agg (cs:List DV)
 |tup (vs:List DV)
 deriving Inhabited
mutual
def CT.enc:(t:CT)→t.D→PV
 |.int k,n=>.fl (.int k n)
 |.bool,b=>.fl (.bool b)
 |.str,s=>.fl (.str s)
 |.ifc,b=>.fl (.ifc b)
 |.sl r,l=>.sl .own (l.map (RT.enc r))
def RT.enc:(r:RT)→r.D→List PV
 |.one t,x=>[CT.enc t x]
 |.cons t r,x=>CT.enc t x.1::RT.enc r x.2
end
mutual
def DV.enc:DV→PV
 |.any=>.fl .undef
 |.undef=>.fl .undef
 |.bool b=>.fl (.bool b.b)
 |.int k n=>.fl (.int k n)
 |.str s=>.fl (.str s)
 |.ifc b=>.fl (.ifc b)
 |.nil q=>.sl q []
 |.sl q r l=>.sl q (l.map r.enc)
 |.ep q r l j o=>.ep q (l.map r.enc) j o
 |.box i o=>.box i o
 |.ptr i o=>.ptr i o
 |.agg cs=>.agg (DV.encL cs)
 |.tup vs=>.tup (DV.encL vs)
def DV.encL:List DV→List PV
 |[]=>[]
 |v::r=>v.enc::DV.encL r
end
def CT.dv(q:Ql):(t:CT)→t.D→DV
 |.int k,n=>.int k n
 |.bool,b=>.bool (.dyn b)
 |.str,s=>.str s
 |.ifc,b=>.ifc b
 |.sl r,l=>.sl q r l
def RT.dv(q:Ql):(r:RT)→r.D→List DV
 |.one t,x=>[CT.dv q t x]
 |.cons t r,x=>CT.dv q t x.1::RT.dv q r x.2
def CT.of:(t:CT)→DV→Option t.D
 |.int k,.int k' n=>if k=k' then some n else none
 |.bool,.bool b=>some b.b
 |.str,.str s=>some s
 |.ifc,.ifc b=>some b
 |.sl r,.nil .own=>some ([]:List r.D)
 |.sl r,.sl .own r' l=>Jd (r':=r') (r:=r) l
 |_,_=>none
def RT.of:(r:RT)→List DV→Option r.D
 |.one t,[v]=>t.of v
 | .cons t r,v::vs=>(match t.of v,r.of vs with
   |some x,some y=>some (x,y)
   |_,_=>none)
 |_,_=>none
def DV.ty:DV→Option CT
 |.int k _=>some (.int k)
 |.bool _=>some .bool
 |.str _=>some .str
 |.ifc _=>some .ifc
 |.sl _ r _=>some (.sl r)
 |_=>none
def Te:List DV→Option RT
 |[]=>none
 |[v]=>v.ty.map .one
 | v::r=>(match v.ty,Te r with
   |some t,some r=>some (.cons t r)
   |_,_=>none)
def DV.cells:DV→List DV
 |.agg cs=>cs
 |v=>[v]
def Ql.own':Ql→Bool
 |.own|.ownw _=>true
 |_=>false
def Ql.bor' (hd:Hd):Ql→Bool
 |.bor h _ _=>h == hd
 |.pre h _=>h == hd
 |_=>false
mutual
def DV.own:DV→Bool
 |.nil q=>q.own'
 |.sl q _ _=>q.own'
 |.agg cs=>DV.ownL cs
 |.tup vs=>DV.ownL vs
 |_=>false
def DV.ownL:List DV→Bool
 |[]=>false
 |v::r=>v.own||DV.ownL r
end
mutual
def DV.bor(hd:Hd):DV→Bool
 |.nil q=>q.bor' hd
 |.sl q _ _=>q.bor' hd
 |.ep q _ _ _ _=>q.bor' hd
 |.agg cs=>DV.borL hd cs
 |.tup vs=>DV.borL hd vs
 |_=>false
def DV.borL(hd:Hd):List DV→Bool
 |[]=>false
 |v::r=>v.bor hd||DV.borL hd r
end
mutual
def DV.hold:DV→Bool
 |.nil q=>(match q with|.frz=>false|_=>true)
 |.sl q _ _=>(match q with|.frz=>false|_=>true)
 |.ep q _ _ _ _=>(match q with|.frz=>false|_=>true)
 |.agg cs=>DV.holdL cs
 |.tup vs=>DV.holdL vs
 |_=>false
def DV.holdL:List DV→Bool
 |[]=>false
 |v::r=>v.hold||DV.holdL r
end
mutual
def DV.fz:DV→DV
 |.nil _=>.nil .frz
 |.sl _ r l=>.sl .frz r l
 |.ep _ r l j o=>.ep .frz r l j o
 |.agg cs=>.agg (DV.fzL cs)
 |.tup vs=>.tup (DV.fzL vs)
 |v=>v
def DV.fzL:List DV→List DV
 |[]=>[]
 |v::r=>v.fz::DV.fzL r
end
def Ql.detop:Ql→Ql
 |.bor h p _=>.bor h p false
 |.pre h p=>.bor h p false
 |q=>q
mutual
def DV.detop:DV→DV
 |.nil q=>.nil q.detop
 |.sl q r l=>.sl q.detop r l
 |.ep q r l j o=>.ep q.detop r l j o
 |.agg cs=>.agg (DV.detopL cs)
 |.tup vs=>.tup (DV.detopL vs)
 |v=>v
def DV.detopL:List DV→List DV
 |[]=>[]
 |v::r=>v.detop::DV.detopL r
end
mutual
def DV.hasPtr:DV→Bool
 |.ptr _ _=>true
 |.agg cs=>DV.hasPtrL cs
 |.tup vs=>DV.hasPtrL vs
 |_=>false
def DV.hasPtrL:List DV→Bool
 |[]=>false
 |v::r=>v.hasPtr||DV.hasPtrL r
end
mutual
def DV.deep:DV→Bool
 |.undef|.bool _|.int _ _|.str _|.ifc _=>true
 |.nil q=>q.own'
 |.sl q _ _=>q.own'
 |.agg cs=>DV.deepL cs
 |.tup vs=>DV.deepL vs
 |.ptr _ _=>true
 |_=>false
def DV.deepL:List DV→Bool
 |[]=>true
 |v::r=>v.deep&&DV.deepL r
end
def DV.cell:DV→Bool
 |.bool _|.int _ _|.str _|.ifc _=>true
 |.nil q=>(match q with|.own|.frz|.ownw _=>true|_=>false)
 |.sl q _ _=>(match q with|.own|.frz|.ownw _=>true|_=>false)
 |_=>false
def Ca:List DV→Bool
 |[]=>true
 |v::r=>v.cell&&Ca r
def DV.argc:DV→Bool
 |.bool _|.int _ _|.str _|.ifc _|.nil _|.sl _ _ _|.ptr _ _=>true
 |_=>false
def Pq:List DV→Bool
 |[]=>true
 |v::r=>v.argc&&Pq r
def DV.argok:DV→Bool
 |.agg cs=>Pq cs
 |v=>v.argc
def Fh:List DV→Bool
 |[]=>true
 |v::r=>v.argok&&Fh r
def DV.retc:DV→Bool
 |.ptr _ _=>true
 |v=>v.cell
def Gc:List DV→Bool
 |[]=>true
 |v::r=>v.retc&&Gc r
def DV.retok:DV→Bool
 |.agg cs=>Gc cs
 |v=>v.retc
def CT.flat:CT→Bool
 |.sl _=>false
 |_=>true
def RT.flat:RT→Bool
 |.one t=>t.flat
 |.cons t r=>t.flat&&r.flat
structure DC where
 d:Bool
 v:DV
structure DS where
 sl:List DC
 bx:List (List DC)
 hp:List (List DC)
def AQ:List DC→Nat→DV
 |[],_=>.any
 |x::_,0=>x.v
 |_::r,n+1=>AQ r n
def Ce:List DC→Nat→DV→List DC
 |[],_,_=>[]
 |_::r,0,v=>⟨true,v⟩::r
 |x::r,n+1,v=>x::Ce r n v
def A7:List (List DC)→Nat→List DC
 |[],_=>[]
 |x::_,0=>x
 |_::r,n+1=>A7 r n
def DA:List (List DC)→Nat→List DC→List (List DC)
 |[],_,_=>[]
 |_::r,0,v=>v::r
 |x::r,n+1,v=>x::DA r n v
def FZ:List DC→Nat→List DV→List DC
 |cs,_,[]=>cs
 |[],_,_::_=>[]
 |_::r,0,v::vs=>⟨true,v⟩::FZ r 0 vs
 |c::r,n+1,v::vs=>c::FZ r n (v::vs)
def FY:List DV→Nat→List DV→List DV
 |cs,_,[]=>cs
 |[],_,_::_=>[]
 |_::r,0,v::vs=>v::FY r 0 vs
 |c::r,n+1,v::vs=>c::FY r n (v::vs)
def Et:List DV→Nat→DV
 |[],_=>.any
 |x::_,0=>x
 |_::r,n+1=>Et r n
def KR:List DV→Nat→DV→List DV
 |[],_,_=>[]
 |_::r,0,v=>v::r
 |x::r,n+1,v=>x::KR r n v
def Bg:List DV→Nat→Nat→List DV
 |_,0,0=>[]
 |[],_,_=>[]
 |c::r,0,n+1=>c::Bg r 0 n
 |_::r,o+1,n=>Bg r o n
def Bh:List DC→List DV
 |[]=>[]
 |c::r=>c.v::Bh r
def news:List DV→List DC
 |[]=>[]
 |v::r=>⟨true,v⟩::news r
def Cd(hd:Hd):List DC→List DC
 |[]=>[]
 |c::r=>(if c.v.bor hd then ⟨true,.any⟩ else c)::Cd hd r
def DV.isBox(i:Nat):DV→Bool
 |.box j _=>i == j
 |_=>false
def Lu(i:Nat):List DC→List DC
 |[]=>[]
 |c::r=>(if c.v.isBox i then ⟨true,.any⟩ else c)::Lu i r
def Pt(live:List Nat):Nat→List DC→List DC
 |_,[]=>[]
 |n,c::r=>(if live.contains n then c else ⟨true,.any⟩)::Pt live (n+1) r
def clean:List DC→List DC
 |[]=>[]
 |c::r=>⟨false,c.v⟩::clean r
def Kt:List (List DC)→List (List DC)
 |[]=>[]
 |b::r=>clean b::Kt r
def DS.clean(st:DS):DS:=⟨Go.Ag.clean st.sl,Kt st.bx,Kt st.hp⟩
def S5:List DC→List PV
 |[]=>[]
 |c::r=>c.v.enc::S5 r
def S8:List (List DC)→List (List PV)
 |[]=>[]
 |b::r=>S5 b::S8 r
def DS.enc(st:DS):PS:=⟨S5 st.sl,S8 st.bx,S8 st.hp⟩
inductive PX where
 |tt|ff|p (h:Prop)|and (a b:PX)|ite (c:Bool) (a b:PX)
def PX.den:PX→Prop
 |.tt=>True
 |.ff=>False
 |.p h=>h
 |.and a b=>a.den∧b.den
 |.ite c a b=>(c=true→a.den)∧(c=false→b.den)
def PX.land:PX→PX→PX
 |.tt,b=>b
 |.ff,_=>.ff
 |a,.tt=>a
 |a,b=>.and a b
def PX.if' (c:Bool):PX→PX→PX
 |.tt,.tt=>.tt
 |a,b=>.ite c a b
def Gf:V→DV
 |.nils=>.nil .own
 |.tup []=>.tup []
 |.bool b=>.bool (.lit b)
 |.int k n=>.int k n
 |.str s=>.str s
 |.ifc b=>.ifc b
 |_=>.undef
def Ey:List V→List DV
 |[]=>[]
 |v::r=>Gf v::Ey r
def Opnd.dev(s:List DC):Opnd→DV
 |.t n=>AQ s n
 |.c v=>Gf v
end
noncomputable section
mutual
def DV.ok:DV→Bool
 |.any=>false
 |.agg cs=>DV.okL cs
 |.tup vs=>DV.okL vs
 |_=>true
def DV.okL:List DV→Bool
 |[]=>true
 |v::r=>v.ok&&DV.okL r
end
def DS.put(st:DS)(d:Option Nat)(v:DV):DS:=
 match d with
 |none=>st
 |some d=>if v.own then { st with sl:=Cd (.s d) (Ce st.sl d v) } else { st with sl:=Ce st.sl d v }
def MP(v:DV)(n:Nat)(st:DS):DV×DS:=if v.own then (if v.bor (.s n) then (.any,st) else (v,{ st with sl:=Cd (.s n) (Ce st.sl n .any) })) else (v,st)
def AE(x:Opnd)(st:DS):DV×DS:=match x with
 |.c v=>(Gf v,st)
 |.t n=>MP (AQ st.sl n) n st
def Py(v:DV)(n:Nat)(st:DS):DV×DS:=if v.own then (if v.retok then (v.fz,{ st with sl:=Cd (.s n) (Ce st.sl n v.fz) }) else (.any,st)) else (v,st)
def IM(x:Opnd)(st:DS):DV×DS:=match x with
 |.c v=>(Gf v,st)
 |.t n=>Py (AQ st.sl n) n st
def DV.fcell:DV→List Nat→DV
 |.agg cs,[c]=>Et cs c
 |.agg _,_=>.any
 |.tup vs,[i,c]=>Et (Et vs i).cells c
 |.tup _,_=>.any
 |v,[0]=>v
 |_,_=>.any
def DV.setc:DV→List Nat→DV→DV
 |.agg cs,[c],w=>.agg (KR cs c w)
 |.agg cs,_,_=>.agg cs
 |.tup vs,_,_=>.tup vs
 |_,[0],w=>w
 |v,_,_=>v
def Bt(st:DS):Hd→List Nat→DV
 |.s t,p=>(AQ st.sl t).fcell p
 |.b i,[c]=>AQ (A7 st.bx i) c
 |.h i,[c]=>AQ (A7 st.hp i) c
 |_,_=>.any
def Eo(st:DS)(v:DV):Hd→List Nat→DS
 |.s t,p=>{ st with sl:=Cd (.s t) (Ce st.sl t ((AQ st.sl t).setc p v)) }
 |.b i,[c]=>{ st with sl:=Cd (.b i) st.sl,bx:=DA st.bx i (Ce (A7 st.bx i) c v) }
 |.h i,[c]=>{ st with sl:=Cd (.h i) st.sl,hp:=DA st.hp i (Ce (A7 st.hp i) c v) }
 |_,_=>st
def Ql.brw(hd:Hd)(p:List Nat):Ql→Ql
 |.own=>.bor hd p true
 |.ownw _=>.pre hd p
 |q=>q
def SZ(hd:Hd)(p:List Nat):DV→DV
 |.sl q r l=>.sl (q.brw hd p) r l
 |.nil q=>.nil (q.brw hd p)
 |v=>v
def Ge(hd:Hd):Nat→List DV→List DV
 |_,[]=>[]
 |c,v::r=>SZ hd [c] v::Ge hd (c+1) r
def SK(hd:Hd):DV→DV
 |.agg cs=>.agg (Ge hd 0 cs)
 |.tup vs=>if DV.ownL vs then .undef else .tup vs
 |v=>SZ hd [0] v
def G4(x:Opnd)(st:DS):DV×DS:=match x with
 |.c v=>(Gf v,st)
 |.t n=>(SK (.s n) (AQ st.sl n),st)
def KM:Ql→Option Ql
 |.frz=>some .frz
 |.bor hd _ _=>some (.bor hd [] false)
 |.pre hd _=>some (.bor hd [] false)
 |_=>none
def Kz:List DV→List DV
 |[]=>[]
 |v::r=>(if v.own then .any else v)::Kz r
def Dw(n:Option Nat)(cs:List DV):Option DV:=
 match n,cs with
 |some _,cs=>some (.agg cs)
 |none,[v]=>some v
 |none,_=>none
def Fs(d:Nat):Option DV→Option (PX×Nat)
 |none=>some (.tt,d)
 |some (.int _ i)=>some (.p (0≤i),iNat i)
 |some _=>none
def Ga:List DV→List (Nat×Nat×Opnd)→DS→Option (List DV×DS)
 |cs,[],st=>some (cs,st)
 | cs,(off,size,x)::r,st=>
   if (AE x st).1.cells.length == size&&Nat.ble (off+size) cs.length&&Ca (AE x st).1.cells then Ga (FY cs off (AE x st).1.cells) r (AE x st).2 else none
abbrev DO:=Option (PX×DV)
def Di(v:DV):DO:=some (.tt,v)
def dI(k:IntKind)(n:Int):DO:=some (.tt,.int k n)
def dB(b:Bool):DO:=some (.tt,.bool (.dyn b))
def Oy(op:BinOp)(k:IntKind)(a b:Int):DO:=
 match op with
 |.add=>dI k (iAdd k a b)
 |.sub=>dI k (iSub k a b)
 |.mul=>dI k (iMul k a b)
 |.quo=>some (.p (b≠0),.int k (iQuo k a b))
 |.rem=>some (.p (b≠0),.int k (iRem a b))
 |.and=>dI k (iAnd k a b)
 |.or=>dI k (iOr k a b)
 |.xor=>dI k (iXor k a b)
 |.andNot=>dI k (iAndNot k a b)
 |.eql=>dB (iEq a b)
 |.neq=>dB (iNe a b)
 |.lss=>dB (iLt a b)
 |.leq=>dB (iLe a b)
 |.gtr=>dB (iGt a b)
 |.geq=>dB (iGe a b)
 |_=>none
def O9(op:BinOp)(k:IntKind)(a b:Int):DO:=
 match op with
 |.shl=>some (.p (0≤b),.int k (iShl k a b))
 |.shr=>some (.p (0≤b),.int k (iShr k a b))
 |_=>none
def IntKind.same(k k':IntKind):Bool:=decide (k=k')
def KO(op:BinOp)(x y:DV):DO:=
 match x,y with
 | .int k a,.int k' b=>(match op with
   |.shl=>O9 .shl k a b
   |.shr=>O9 .shr k a b
   |op=>if IntKind.same k k' then Oy op k a b else none)
 | .str a,.str b=>(match op with
   |.add=>some (.p (a.length+b.length≤9223372036854775807),.str (sAdd a b))
   |.eql=>dB (sEq a b)
   |.neq=>dB (sNe a b)
   |_=>none)
 |_,_=>none
def BX.not:BX→BX
 |.lit b=>.lit (!b)
 |.dyn b=>.dyn (bNot b)
def BX.eq:BX→BX→BX
 |.lit a,.lit b=>.lit (a == b)
 |.lit true,.dyn b=>.dyn b
 |.lit false,.dyn b=>.dyn (bNot b)
 |.dyn a,.lit true=>.dyn a
 |.dyn a,.lit false=>.dyn (bNot a)
 |.dyn a,.dyn b=>.dyn (bIff a b)
def PA(neg:Bool):DV→DV→DO
 |.bool a,.bool b=>Di (.bool (if neg then (a.eq b).not else a.eq b))
 |_,_=>none
def Ta(neg:Bool):DV→DO
 |.ifc a=>dB (if neg then bNot a else a)
 |_=>none
def Hw:List DV→List DV→Option BX
 |[],[]=>some (.lit true)
 |.int k a::x,.int k' b::y=>if IntKind.same k k' then (match x,y with
  |[],[]=>some (.dyn (iEq a b))
  |x,y=>(Hw x y).map fun t=>.dyn (bAnd (iEq a b) t.b)) else none
 |_,_=>none
def PB(n:Nat)(neg:Bool):DV→DV→DO
 | .agg a,.agg b=>if a.length == n&&b.length == n then (match Hw a b with
   |some t=>Di (.bool (if neg then t.not else t))
   |none=>none) else none
 |_,_=>none
def Tc(op:UnOp)(x:DV):DO:=
 match op,x with
 |.not,.bool b=>Di (.bool b.not)
 |.neg,.int k n=>dI k (iNeg k n)
 |_,_=>none
def SS(k:IntKind):DV→DO
 |.int _ n=>dI k (iConv k n)
 |_=>none
def Pd:(r:RT)→List r.D→Option (List UInt8)
 |.one (.int .u8),l=>some (rowS l)
 |_,_=>none
def S0:DV→DO
 |.nil _=>Di (.str [])
 |.sl _ r l=>(Pd r l).map fun s=>(.tt,.str s)
 |_=>none
def XG(x:Opnd)(z:Bool)(q:Ql):Option Ql:=Dg x (if z then 0 else 1) q
def Sj(w:Nat)(x:Opnd)(lo hi:Option DV):DV→DO
 | .sl q r l=>(match Fs 0 lo,Fs (lN l) hi with
   | some (g,a),some (g',b)=>if r.w == w then (match XG x lo.isNone q with
     |some q'=>some ((g.land g').land (.p (a≤b∧b≤l.length∧0<l.length)),.sl q' r (lSub l a b))
     |none=>none) else none
   |_,_=>none)
 |_=>none
def RN(lo hi:Option DV):DV→DO
 | .str t=>(match Fs 0 lo,Fs (lN t) hi with
   |some (g,a),some (g',b)=>some ((g.land g').land (.p (a≤b∧b≤t.length)),.str (lSub t a b))
   |_,_=>none)
 |_=>none
def Ss:DV→DO
 |.box i o=>Di (.box i o)
 |.ptr i o=>Di (.ptr i o)
 |.ep q r l j o=>Di (.ep q r l j o)
 |_=>none
def RA(off:Nat):DV→DO
 |.box i o=>Di (.box i (o+off))
 |.ptr i o=>Di (.ptr i (o+off))
 |.ep q r l j o=>Di (.ep q r l j (o+off))
 |_=>none
def Sl(off:Nat)(n:Option Nat)(x:Opnd):DV→DO
 | .agg cs=>(match x with
   |.t t=>if Nat.ble (off+n.getD 1) cs.length&&DV.okL (Bg cs off (n.getD 1)) then (Dw n (Ge (.s t) off (Bg cs off (n.getD 1)))).map fun v=>(.tt,v) else none
   |.c _=>none)
 |_=>none
def LW(w:Nat)(x:Opnd):DV→DV→DO
 | .sl q r l,.int _ j=>if r.w == w then (match Dd x q with
   |some q'=>some (.p (0≤j∧j<l.length),.ep q' r l (iNat j) 0)
   |none=>none) else none
 |.nil _,.int _ _=>none
 |_,_=>none
def O3:DV→DV→DO
 |.str t,.int _ j=>some (.p (0≤j∧j<t.length),.int .u8 (sGet t j))
 |_,_=>none
def S7:DV→DO
 |.sl _ _ l=>dI .i64 (lLen l)
 |.nil _=>dI .i64 0
 |_=>none
def SV:DV→DO
 |.str t=>dI .i64 (lLen t)
 |_=>none
def S4:DV→DV→DO
 |.int .i64 a,.int .i64 b=>dI .i64 (iMin a b)
 |_,_=>none
def S9:DV→DV→DO
 |.int .i64 a,.int .i64 b=>dI .i64 (iMax a b)
 |_,_=>none
abbrev C3:=Option (PX×DV×DS)
def I8(m:Bool)(i:Nat)(n:Option Nat)(a:DV)(st:DS):C3:=
 match a with
 | .box j o=>
   let cs:=Bg (Bh (A7 st.bx i)) o (n.getD 1)
   if i == j&&Nat.ble (o+n.getD 1) (A7 st.bx i).length&&DV.okL cs then
    if m then (Dw n cs).map fun v=>(.tt,v,{ st with sl:=Cd (.b i) st.sl,bx:=DA st.bx i (FZ (A7 st.bx i) o (Kz cs)) })
    else (Dw n (Ge (.b i) o cs)).map fun v=>(.tt,v,st)
   else none
 |_=>none
def HF(m:Bool)(n:Option Nat)(a:DV)(st:DS):C3:=
 match a with
 | .ptr i o=>
   let cs:=Bg (Bh (A7 st.hp i)) o (n.getD 1)
   if Nat.blt i st.hp.length&&Nat.ble (o+n.getD 1) (A7 st.hp i).length&&DV.okL cs then
    if m then (Dw n cs).map fun v=>(.tt,v,{ st with sl:=Cd (.h i) st.sl,hp:=DA st.hp i (FZ (A7 st.hp i) o (Kz cs)) })
    else (Dw n (Ge (.h i) o cs)).map fun v=>(.tt,v,st)
   else none
 | .ep q r l j o=>(match KM q with
   |some q'=>if Nat.ble (o+n.getD 1) r.w then (Dw n (Bg (r.dv q' (lGet l j r.dflt)) o (n.getD 1))).map fun v=>(.p (j<l.length),v,st) else none
   |none=>none)
 |_=>none
def LX(i n:Nat)(a x:Opnd)(st0:DS):C3:=
 match AE x st0 with
 | (v, st)=>match a.dev st0.sl with
   |.box j o=>if i == j&&Nat.blt i st.bx.length&&v.cells.length == n&&Nat.ble (o+n) (A7 st.bx i).length&&Ca v.cells then
    some (.tt,.undef,{ st with sl:=if (!DV.okL (Bg (Bh (A7 st.bx i)) o n))||DV.ownL (Bg (Bh (A7 st.bx i)) o n)||v.own then Cd (.b i) st.sl else st.sl,bx:=DA st.bx i (FZ (A7 st.bx i) o v.cells) }) else none
   |_=>none
def LY(n:Nat)(a x:Opnd)(st0:DS):C3:=
 match AE x st0 with
 | (v, st)=>match a.dev st.sl with
   |.ptr i o=>if Nat.blt i st.hp.length&&v.cells.length == n&&Nat.ble (o+n) (A7 st.hp i).length&&Ca v.cells then
    some (.tt,.undef,{ st with sl:=if (!DV.okL (Bg (Bh (A7 st.hp i)) o n))||DV.ownL (Bg (Bh (A7 st.hp i)) o n)||v.own then Cd (.h i) st.sl else st.sl,hp:=DA st.hp i (FZ (A7 st.hp i) o v.cells) }) else none
   | .ep (.bor hd [p] true) _ _ j o=>(match Bt st hd [p] with
     | .sl .own r l=>if v.cells.length == n&&Nat.ble (o+n) r.w&&Ca v.cells then (match r.of (FY (r.dv .own (lGet l j r.dflt)) o v.cells) with
       |some y=>some (.p (j<l.length),.undef,Eo st (.sl .own r (lSet l j y)) hd [p])
       |none=>none) else none
     |_=>none)
   |_=>none
def HE(m:Bool)(n:Option Nat)(a:DV)(st:DS):Option C3:=
 match m,n,a with
 | true,none,.ep (.bor hd [c] true) (.one (.sl _)) l j 0=>some (match Bt st hd [c] with
   |.sl .own (.one (.sl r)) l2=>some (.p (j<l.length∧j<l2.length),.sl (.bor hd [c,j] true) r (lGet (α:=List r.D) l2 j []),st)
   |_=>none)
 |_,_,_=>none
def DV.nest:DV→Option (Hd×Nat×Nat×Nat×Nat)
 |.ep (.bor hd [p,k] true) _ _ j o=>some (hd,p,k,j,o)
 |_=>none
def DV.nflat:DV→Bool
 |.bool _|.int _ _|.str _|.ifc _=>true
 |_=>false
def I5:List DV→Bool
 |[]=>true
 |v::r=>v.nflat&&I5 r
def LN(n:Nat)(hd:Hd)(p k j o:Nat)(v:DV)(st:DS):C3:=
 match Bt st hd [p] with
 | .sl .own (.one (.sl r)) l=>if v.cells.length == n&&Nat.ble (o+n) r.w&&I5 v.cells then (match r.of (FY (r.dv .own (lGet (lGet (α:=List r.D) l k []) j r.dflt)) o v.cells) with
   |some y=>some (.p (k<l.length∧j<(lGet (α:=List r.D) l k []).length),.undef,Eo st (.sl .own (.one (.sl r)) (lSet (α:=List r.D) l k (lSet (lGet (α:=List r.D) l k []) j y))) hd [p])
   |none=>none) else none
 |_=>none
inductive DSrc where
 |nil
 |sl (r:RT) (l:List r.D)
def DSrc.w:DSrc→Nat→Bool
 |.nil,_=>true
 |.sl r _,w=>r.w == w
def DSrc.to(r:RT):DSrc→Option (List r.D)
 |.nil=>some []
 |.sl _ l=>Jd l
def Gh(w:Nat)(y:Opnd)(st:DS):Option (DSrc×DS):=
 match y.dev st.sl with
 |.str s=>if w == 1 then some (.sl (.one (.int .u8)) (sRow s),st) else none
 |.sl .own r l=>if r.w == w then some (.sl r l,(AE y st).2) else none
 |.sl (.ownw _) _ _=>none
 |.sl _ r l=>if r.w == w&&r.flat then some (.sl r l,st) else none
 |.nil .own=>some (.nil,(AE y st).2)
 |.nil _=>some (.nil,st)
 |_=>none
def KN(w:Nat)(x:Opnd)(new:DSrc)(st:DS):C3:=
 if !(Nat.blt 0 w&&new.w w) then none else
 match x.dev st.sl with
 | .nil .own=>(match new with
   |.nil=>some (.tt,.nil .own,(AE x st).2)
   |.sl r l=>some (.p (AP (l.length*w)),.sl .own r l,(AE x st).2))
 | .sl .own r l=>if r.w == w then (match new.to r with
   |some n=>some (.p (AP ((l.length+n.length)*w)),.sl .own r (lApp l n),(AE x st).2)
   |none=>none) else none
 | .sl (.bor hd [c] true) r l=>(match Bt st hd [c] with
   | .sl .own rh lh=>if rh.w == w then (match new.to rh with
     |some n=>some (.p (l.length=lh.length∧AP ((lh.length+n.length)*w)),.sl .own rh (lApp lh n),Eo st .undef hd [c])
     |none=>none) else none
   |_=>none)
 | .nil (.bor hd [c] true)=>(match Bt st hd [c] with
   | .nil .own=>(match new with
     |.nil=>some (.tt,.nil .own,Eo st .undef hd [c])
     |.sl r l=>some (.p (AP (l.length*w)),.sl .own r l,Eo st .undef hd [c]))
   |_=>none)
 | .sl (.pre hd [c]) r l=>(match Bt st hd [c] with
   | .sl .own rh lh=>if rh.w == w then (match new.to rh with
     |some n=>some (.p (0<lh.length∧l.length≤lh.length∧0<l.length+n.length∧AP ((l.length+n.length)*w)),.sl .own rh (lApp (lTake lh (lN l)) n),Eo st .undef hd [c])
     |none=>none) else none
   |_=>none)
 |_=>none
def HW(w:Nat)(new:DSrc)(st:DS):C3:=
 match new with
 |.nil=>some (.tt,.nil (.ownw w),st)
 |.sl r l=>some (.p (AP (l.length*w)),.sl (.ownw w) r l,st)
def Mp(w:Nat)(x:Opnd)(new:DSrc)(st:DS):C3:=
 if !(Nat.blt 0 w&&new.w w) then none else
 match x.dev st.sl with
 |.nil .own=>HW w new (AE x st).2
 |.nil (.ownw w')=>if w' == w then HW w new (AE x st).2 else none
 | .sl .own r l=>if r.w == w then (match new.to r with
   |some n=>some (.p (AP ((l.length+n.length)*w)),.sl (.ownw w) r (lApp l n),(AE x st).2)
   |none=>none) else none
 | .sl (.ownw w') r l=>if w' == w&&r.w == w then (match new.to r with
   |some n=>some (.p (AP ((l.length+n.length)*w)),.sl (.ownw w) r (lApp l n),(AE x st).2)
   |none=>none) else none
 | .sl (.pre hd [c]) r l=>(match Bt st hd [c] with
   | .sl .own rh lh=>if rh.w == w then (match new.to rh with
     |some n=>some (.p (0<lh.length∧l.length≤lh.length∧AP ((l.length+n.length)*w)),.sl (.ownw w) rh (lApp (lTake lh (lN l)) n),Eo st .undef hd [c])
     |none=>none) else none
   | .sl (.ownw w') rh lh=>if w' == w&&rh.w == w then (match new.to rh with
     |some n=>some (.p (0<lh.length∧l.length≤lh.length∧AP ((l.length+n.length)*w)),.sl (.ownw w) rh (lApp (lTake lh (lN l)) n),Eo st .undef hd [c])
     |none=>none) else none
   |_=>none)
 |_=>none
def MR(w:Nat):DV→Option DV
 |.nil .own=>some (.nil (.ownw w))
 |.nil (.ownw w')=>if w' == w then some (.nil (.ownw w)) else none
 |.sl .own r l=>if r.w == w then some (.sl (.ownw w) r l) else none
 |.sl (.ownw w') r l=>if w' == w then some (.sl (.ownw w) r l) else none
 |_=>none
def Pw:List (Nat×Nat)→List DV→Option (List DV)
 |[],l=>some l
 | (c,w)::r,l=>match MR w (Et l c) with
   |some v=>Pw r (KR l c v)
   |none=>none
def Jt(ws:List (Nat×Nat)):DV→Option DV
 |.agg l=>(Pw ws l).map .agg
 | .nil q=>(match ws with
   |[(0,w)]=>MR w (.nil q)
   |_=>none)
 | .sl q r l=>(match ws with
   |[(0,w)]=>MR w (.sl q r l)
   |_=>none)
 |_=>none
def Kd(r:RT)(w:Nat):Nat→List DV→Option (List r.D)
 |0,_=>some []
 | n+1,cs=>(match r.of (cs.take w),Kd r w n (cs.drop w) with
   |some x,some l=>some (x::l)
   |_,_=>none)
def EH:List V→Bool
 |[]=>true
 |v::r=>v.flat&&EH r
def KC(o:AOp)(e:Opnd→DV):DO:=
 match o with
 |.nilck x=>Ss (e x)
 |.bin op x y=>KO op (e x) (e y)
 |.eqB neg x y=>PA neg (e x) (e y)
 |.eqN neg x y=>(match y with|.c (.ifc true)=>Ta neg (e x)|_=>none)
 |.eqA n neg x y=>PB n neg (e x) (e y)
 |.un op x=>Tc op (e x)
 |.conv k x=>SS k (e x)
 |.bstr x=>S0 (e x)
 |.slice w x lo hi=>Sj w x (lo.map e) (hi.map e) (e x)
 |.substr x lo hi=>RN (lo.map e) (hi.map e) (e x)
 |.fieldA off a=>RA off (e a)
 |.field off n x=>Sl off n x (e x)
 |.indexA w x i=>LW w x (e x) (e i)
 |.index x i=>O3 (e x) (e i)
 |.len x=>S7 (e x)
 |.lenT x=>SV (e x)
 |.minI x y=>S4 (e x) (e y)
 |.maxI x y=>S9 (e x) (e y)
 |_=>none
def A4 (m:Bool)(o:AOp)(ty:Option RT)(st:DS):C3:=
 let e (x:Opnd):=x.dev st.sl
 let known (r:DV×DS):C3:=if r.1.ok then some (.tt,r.1,r.2) else none
 match o with
 |.mv x=>known (if m then G4 x st else AE x st)
 |.allocB i zs=>if Nat.blt i st.bx.length&&EH zs then some (.tt,.box i 0,{ st with sl:=Cd (.b i) (Lu i st.sl),bx:=DA st.bx i (news (Ey zs)) }) else none
 | .boxB i n x=>(match AE x st with
   |(v,st)=>if Nat.blt i st.bx.length&&v.cells.length == n&&Ca v.cells then some (.tt,.box i 0,{ st with sl:=Cd (.b i) (Lu i st.sl),bx:=DA st.bx i (news v.cells) }) else none)
 |.allocH zs=>if EH zs then some (.tt,.ptr st.hp.length 0,{ st with sl:=Cd (.h st.hp.length) st.sl,hp:=st.hp++[news (Ey zs)] }) else none
 | .boxH n x=>(match AE x st with
   |(v,st)=>if v.cells.length == n&&Ca v.cells then some (.tt,.ptr st.hp.length 0,{ st with sl:=Cd (.h st.hp.length) st.sl,hp:=st.hp++[news v.cells] }) else none)
 | .build zs ps=>if EH zs then (match Ga (Ey zs) ps st with
   |some (cs,st)=>some (.tt,.agg cs,st)
   |none=>none) else none
 | .mkSlice w z len=>(match e len with
   | .int .i64 n=>(match (match ty with|some r=>some r|none=>Te (Ey z)) with
     | some r=>(match r.of (Ey z) with
       |some d=>if z.length == w&&r.w == w&&Nat.blt 0 w&&EH z then some (.p (0≤n∧AP (n.toNat*w)),.sl .own r (lRep n d),st) else none
       |none=>none)
     |none=>none)
   |_=>none)
 | .litSlice w n zs ps=>
   if n == 0 then some (.tt,(match ty with|some r=>.sl .own r []|none=>.nil .own),st)
   else if EH zs&&zs.length == n*w&&Nat.blt 0 w then (match Ga (Ey zs) ps st with
    | some (cs,st)=>(match (match ty with|some r=>some r|none=>Te (cs.take w)) with
      | some r=>if r.w == w then (match Kd r w n cs with
        |some l=>some (.tt,.sl .own r l,st)
        |none=>none) else none
      |none=>none)
    |none=>none)
   else none
 |.loadB i n a=>I8 m i n (e a) st
 | .loadH n a=>(match HE m n (e a) st with
   |some r=>r
   |none=>HF m n (e a) st)
 |.storeB i n a x=>LX i n a x st
 | .storeH n a x=>if (e a).ok then (match (e a).nest with
   |some (hd,p,k,j,o)=>LN n hd p k j o (e x) st
   |none=>LY n a x st) else none
 | .app w x y=>(match Gh w y st with
   |some (new,st)=>KN w x new st
   |none=>none)
 | .appN w x y=>(match x.dev st.sl with
   | .nil .own=>(match Gh w y st with
     |some (new,st)=>KN w x new st
     |none=>none)
   |_=>none)
 | .extract x i=>(match x with
   | .t t=>(match AQ st.sl t with
     |.tup vs=>if Nat.blt i vs.length&&(Et vs i).ok then (if (Et vs i).own then (if (Et vs i).bor (.s t) then none else some (.tt,Et vs i,{ st with sl:=Cd (.s t) (Ce st.sl t (.tup (KR vs i .undef))) })) else some (.tt,Et vs i,st)) else none
     |_=>none)
   |.c _=>none)
 |.pick ..=>none
 |.callB ..=>none
 |o=>(KC o e).map fun r=>(r.1,r.2,st)
def IX(ws:List (Nat×Nat))(m:Bool)(o:AOp)(ty:Option RT)(st:DS):C3:=
 match o with
 | .app w x y=>(match ws with
   | [(0,w')]=>if w' == w then (match Gh w y st with
     |some (new,st)=>Mp w x new st
     |none=>none) else none
   |_=>none)
 | o => (match A4 m o ty st with
   | some (g,v,st)=>(match Jt ws v with
     |some v=>some (g,v,st)
     |none=>none)
   |none=>none)
end
noncomputable section
def Px(c:Bool):BX→BX→BX
 |.lit true,.lit true=>.lit true
 |.lit false,.lit false=>.lit false
 |.lit true,.lit false=>.dyn c
 |.lit false,.lit true=>.dyn (bNot c)
 |.lit true,.dyn y=>.dyn (bOr c y)
 |.lit false,.dyn y=>.dyn (bAnd (bNot c) y)
 |.dyn x,.lit true=>.dyn (bOr (bNot c) x)
 |.dyn x,.lit false=>.dyn (bAnd c x)
 |.dyn x,.dyn y=>.dyn (bSel c x y)
def CZ(q q':Ql):Bool:=decide (q=q')
mutual
def B5(c:Bool):DV→DV→DV
 |.undef,.undef=>.undef
 |.bool x,.bool y=>.bool (Px c x y)
 |.int k x,.int k' y=>if IntKind.same k k' then .int k (bSel c x y) else .any
 |.str x,.str y=>.str (bSel c x y)
 |.ifc x,.ifc y=>.ifc (bSel c x y)
 |.nil q,.nil q'=>if CZ q q' then .nil q else .any
 |.nil q,.sl q' r l=>if CZ q q' then .sl q r (bSel c [] l) else .any
 |.sl q r l,.nil q'=>if CZ q q' then .sl q r (bSel c l []) else .any
 | .sl q r l,.sl q' r' l'=>if CZ q q' then (match Jd (r':=r') (r:=r) l' with
   |some l'=>.sl q r (bSel c l l')
   |none=>.any) else .any
 |.box i o,.box i' o'=>if i == i'&&o == o' then .box i o else .any
 |.ptr i o,.ptr i' o'=>if i == i'&&o == o' then .ptr i o else .any
 |.agg x,.agg y=>if x.length == y.length&&DV.okL (G7 c x y) then .agg (G7 c x y) else .any
 |.tup x,.tup y=>if x.length == y.length&&DV.okL (G7 c x y) then .tup (G7 c x y) else .any
 |_,_=>.any
def G7(c:Bool):List DV→List DV→List DV
 |x::a,y::b=>B5 c x y::G7 c a b
 |_,_=>[]
end
def Pz(c:Bool)(x y:DC):DC:=if x.d||y.d then ⟨true,B5 c x.v y.v⟩ else x
def Mx(c:Bool):List DC→List DC→List DC
 |x::a,y::b=>Pz c x y::Mx c a b
 |_,_=>[]
def Mw(c:Bool):List (List DC)→List (List DC)→List (List DC)
 |x::a,y::b=>(if x.length == y.length then Mx c x y else [])::Mw c a b
 |_,_=>[]
def Jm(c:Bool)(x y:DS):Option DS:=
 if x.sl.length == y.sl.length&&x.bx.length == y.bx.length&&x.hp.length == y.hp.length then some ⟨Mx c x.sl y.sl,Mw c x.bx y.bx,Mw c x.hp y.hp⟩ else none
def KL:List DC→List DC→List DC
 |x::a,y::b=>⟨x.d||y.d,y.v⟩::KL a b
 |_,r=>r
def MO:List (List DC)→List (List DC)→List (List DC)
 |x::a,y::b=>KL x y::MO a b
 |_,r=>r
def H8(x y:DS):DS:=⟨KL x.sl y.sl,MO x.bx y.bx,MO x.hp y.hp⟩
inductive DT where
 |leaf (e:AExit) (st:DS)
 |node (c:Bool) (a b:DT)
 |chk (g:PX) (t:DT)
 |bad
inductive NS where
 |none|some (st:DS)|fail
def DT.norm:DT→NS
 |.leaf .normal st=>.some st
 |.leaf _ _=>.none
 | .node c a b=>(match a.norm,b.norm with
   |.none,y=>y
   |x,.none=>x
   | .some x,.some y=>(match Jm c x y with
     |some z=>.some z
     |none=>.fail)
   |_,_=>.fail)
 |.chk _ t=>t.norm
 |.bad=>.none
def DT.nn:DT→Nat
 |.leaf .normal _=>1
 |.node _ a b=>a.nn+b.nn
 |.chk _ t=>t.nn
 |_=>0
def DT.cont:DT→Option BX
 |.leaf .normal _=>some (.lit true)
 |.leaf _ _=>some (.lit false)
 | .node c a b=>(match a.cont,b.cont with
   |none,y=>y
   |x,none=>x
   |some x,some y=>some (Px c x y))
 |.chk _ t=>t.cont
 |.bad=>none
def DT.ok:DT→PX
 |.leaf _ _=>.tt
 |.node c a b=>PX.if' c a.ok b.ok
 |.chk g t=>g.land t.ok
 |.bad=>.ff
def DT.nodeB(c:Bool):DT→DT→DT
 |.bad,b=>b
 |a,.bad=>a
 |a,b=>.node c a b
def DT.drop:DT→DT
 |.leaf .normal _=>.bad
 |.leaf e st=>.leaf e st
 |.node c a b=>DT.nodeB c a.drop b.drop
 |.chk _ t=>t.drop
 |.bad=>.bad
def DT.map(f:DS→DS):DT→DT
 |.leaf e st=>.leaf e (f st)
 |.node c a b=>.node c (a.map f) (b.map f)
 |.chk g t=>.chk g (t.map f)
 |.bad=>.bad
def DT.bind(f:DS→DT)(h:DS→DS):DT→DT
 |.leaf .normal st=>f st
 |.leaf e st=>.leaf e (h st)
 |.node c a b=>.node c (a.bind f h) (b.bind f h)
 |.chk g t=>.chk g (t.bind f h)
 |.bad=>.bad
def DT.unexit(i:Nat):DT→DT
 |.leaf (.exit j) st=>if j == i then .leaf .normal st else .leaf (.exit j) st
 |.leaf e st=>.leaf e st
 |.node c a b=>.node c (a.unexit i) (b.unexit i)
 |.chk g t=>.chk g (t.unexit i)
 |.bad=>.bad
def DT.chk':PX→DT→DT
 |.tt,t=>t
 |g,t=>.chk g t
def DT.then(f:DS→DT)(h:DS→DS)(t:DT):DT:=
 if Nat.ble t.nn 1 then t.bind f h
 else match t.norm with
  | .some m=>DT.chk' t.ok (match t.cont with
    |some (.dyn c)=>.node c (f m) (t.drop.map h)
    |some (.lit true)=>f m
    |_=>.bad)
  |_=>t.bind f h
section
variable {X:Type}
inductive LoopTo (c:X→Bool) (f:X→X) (p:X→Prop):X→X→Prop
 |stop {x:X}:p x→c x=false→LoopTo c f p x x
 |go {x y:X}:p x→c x=true→LoopTo c f p (f x) y→LoopTo c f p x y
def LoopOk(c:X→Bool)(f:X→X)(p:X→Prop)(x:X):Prop:=∃ y,LoopTo c f p x y
open Classical in
def AZ(c:X→Bool)(f:X→X)(x:X):X:=if h:∃ y,LoopTo c f (fun _=>True) x y then Classical.choose h else x
theorem LoopTo.fst{c:X→Bool}{f:X→X}{p q:X→Prop}{x y z:X}(h:LoopTo c f p x y)(h':LoopTo c f q x z):y=z:=by
 induction h with
 | stop _ h1=>
   cases h' with
   |stop=>rfl
   |go _ h2=>rw[h1] at h2;cases h2
 | go _ h1 _ ih=>
   cases h' with
   |stop _ h2=>rw[h1] at h2;cases h2
   |go _ _ h3=>exact ih h3
theorem LoopTo.mono{c:X→Bool}{f:X→X}{p q:X→Prop}(hp:∀ x,p x→q x){x y:X}(h:LoopTo c f p x y):LoopTo c f q x y:=by
 induction h with
 |stop h0 h1=>exact .stop (hp _ h0) h1
 |go h0 h1 _ ih=>exact .go (hp _ h0) h1 ih
theorem LoopTo.val{c:X→Bool}{f:X→X}{p:X→Prop}{x y:X}(h:LoopTo c f p x y):AZ c f x=y:=by
 have h':∃ y,LoopTo c f (fun _=>True) x y:=⟨y,h.mono fun _ _=>trivial⟩;unfold AZ;rw[dif_pos h'];exact(Classical.choose_spec h').fst h
theorem LoopOk.to{c:X→Bool}{f:X→X}{p:X→Prop}{x:X}(h:LoopOk c f p x):LoopTo c f p x (AZ c f x):=by
 obtain⟨y,h⟩:=h;rw[h.val];exact h
end
inductive Pl where
 |s (i:Nat)|b (i c:Nat)|h (i c:Nat)
inductive HT where
 |one (q:Ql) (t:CT)|agg (l:List (Ql×CT))
structure Hole where
 pl:Pl
 t:HT
def AgX:List (Ql×CT)→Type
 |[]=>Unit
 |[a]=>a.2.D
 |a::r=>a.2.D×AgX r
def HT.D:HT→Type
 |.one _ t=>t.D
 |.agg l=>AgX l
def E3:List Hole→Type
 |[]=>Unit
 |[a]=>a.t.D
 |a::r=>a.t.D×E3 r
def DS.at(st:DS):Pl→DV
 |.s i=>AQ st.sl i
 |.b i c=>AQ (A7 st.bx i) c
 |.h i c=>AQ (A7 st.hp i) c
def DS.wr(st:DS)(v:DV):Pl→DS
 |.s i=>{ st with sl:=Ce st.sl i v }
 |.b i c=>{ st with bx:=DA st.bx i (Ce (A7 st.bx i) c v) }
 |.h i c=>{ st with hp:=DA st.hp i (Ce (A7 st.hp i) c v) }
def CT.ofQ(q:Ql):(t:CT)→DV→Option t.D
 |.int k,.int k' n=>if IntKind.same k k' then some n else none
 |.bool,.bool b=>some b.b
 |.str,.str s=>some s
 |.ifc,.ifc b=>some b
 |.sl r,.nil q'=>if CZ q q' then some ([]:List r.D) else none
 |.sl r,.sl q' r' l=>if CZ q q' then Jd (r':=r') (r:=r) l else none
 |_,_=>none
def H4:(l:List (Ql×CT))→List DV→Option (AgX l)
 |[],[]=>some ()
 |[a],[v]=>a.2.ofQ a.1 v
 | a::b::r,v::vs=>(match a.2.ofQ a.1 v,H4 (b::r) vs with
   |some x,some y=>some (x,y)
   |_,_=>none)
 |_,_=>none
def KK:(l:List (Ql×CT))→AgX l→List DV
 |[],_=>[]
 |[a],x=>[a.2.dv a.1 x]
 |a::b::r,x=>a.2.dv a.1 x.1::KK (b::r) x.2
def HT.of:(h:HT)→DV→Option h.D
 |.one q t,v=>t.ofQ q v
 |.agg l,.agg vs=>H4 l vs
 |.agg _,_=>none
def HT.dv:(h:HT)→h.D→DV
 |.one q t,x=>t.dv q x
 |.agg l,x=>.agg (KK l x)
def Ib(st:DS):(H:List Hole)→Option (E3 H)
 |[]=>some ()
 |[a]=>a.t.of (st.at a.pl)
 | a::b::r=>(match a.t.of (st.at a.pl),Ib st (b::r) with
   |some x,some y=>some (x,y)
   |_,_=>none)
def wrX(st:DS):(H:List Hole)→E3 H→DS
 |[],_=>st
 |[a],x=>st.wr (a.t.dv x) a.pl
 |a::b::r,x=>wrX (st.wr (a.t.dv x.1) a.pl) (b::r) x.2
def DV.same:DV→DV→Bool
 |.undef,.undef=>true
 |.nil q,.nil q'=>CZ q q'
 |.box i o,.box i' o'=>i == i'&&o == o'
 |.ptr i o,.ptr i' o'=>i == i'&&o == o'
 |_,_=>false
def DV.isAny:DV→Bool
 |.any=>true
 |_=>false
inductive Cls where
 |left|hole (t:HT)|kill
def XB:DV→DV→Option (Ql×CT)
 |.int k _,.int k' _=>if IntKind.same k k' then some (.own,.int k) else none
 |.bool _,.bool _=>some (.own,.bool)
 |.str _,.str _=>some (.own,.str)
 |.ifc _,.ifc _=>some (.own,.ifc)
 |.nil q,.sl q' r _=>if CZ q q' then some (q,.sl r) else none
 |.sl q r _,.nil q'=>if CZ q q' then some (q,.sl r) else none
 |.sl q r _,.sl q' r' _=>if CZ q q'&&RT.beq r' r then some (q,.sl r) else none
 |_,_=>none
def XA:List DV→List DV→Option (List (Ql×CT))
 |[],[]=>some []
 | x::a,y::b=>(match XB x y,XA a b with
   |some t,some l=>some (t::l)
   |_,_=>none)
 |_,_=>none
def XI(x:DV)(y:DC):Cls:=
 if y.d then (if x.isAny||x.same y.v then .left else match x,y.v with
  | .agg a,.agg b=>(match XA a b with
    |some l=>.hole (.agg l)
    |none=>.kill)
  | x,y=>(match XB x y with
    |some t=>.hole (.one t.1 t.2)
    |none=>.kill)) else .left
def Hc(pl:Nat→Pl):Nat→List DC→List DC→List Hole×List DC
 | n,x::a,y::b=>(match XI x.v y,Hc pl (n+1) a b with
   |.left,(H,l)=>(H,x::l)
   |.hole t,(H,l)=>(⟨pl n,t⟩::H,⟨true,.any⟩::l)
   |.kill,(H,l)=>(H,⟨true,.any⟩::l))
 |_,a,_=>([],a)
def Jr(pl:Nat→Nat→Pl):Nat→List (List DC)→List (List DC)→List Hole×List (List DC)
 | n,x::a,y::b=>(match Jr pl (n+1) a b with
   |(H,l)=>if x.length == y.length then (match Hc (pl n) 0 x y with|(H',x')=>(H'++H,x'::l)) else (H,[]::l))
 |_,a,_=>([],a)
def MT(x y:DS):List Hole×DS:=
 match Hc .s 0 x.sl y.sl,Jr .b 0 x.bx y.bx,Jr .h 0 x.hp y.hp with
 |(H1,s),(H2,b),(H3,h)=>(H1++H2++H3,⟨s,b,h⟩)
def MM:List DC→List DC→Bool
 |k::a,y::b=>(k.v.isAny||!y.d||k.v.same y.v)&&MM a b
 |[],[]=>true
 |_,_=>false
def MK:List (List DC)→List (List DC)→Bool
 |k::a,y::b=>(k.length == 0||MM k y)&&MK a b
 |[],[]=>true
 |_,_=>false
def Tb(K y:DS):Bool:=MM K.sl y.sl&&MK K.bx y.bx&&MK K.hp y.hp
def J6(K:DS):List Hole→Bool
 |[]=>true
 |a::r=>(K.at a.pl).isAny&&J6 K r
def DV.top:DV→Bool
 |.sl (.bor _ _ t) _ _=>t
 |.sl (.pre _ _) _ _=>true
 |.nil (.bor _ _ t)=>t
 |.nil (.pre _ _)=>true
 |.ep (.bor _ _ t) _ _ _ _=>t
 |.ep (.pre _ _) _ _ _ _=>true
 |.agg _=>true
 |.tup _=>true
 |_=>false
mutual
def DV.hasTop:DV→Bool
 |.agg cs=>DV.hasTopL cs
 |.tup cs=>DV.hasTopL cs
 |v=>v.top
def DV.hasTopL:List DV→Bool
 |[]=>false
 |v::r=>v.hasTop||DV.hasTopL r
end
def Pb (live:List Nat):Nat→List DC→List DC
 |_,[]=>[]
 |n,c::r=>(if live.contains n then (if c.v.hasTop then ⟨true,c.v.detop⟩ else c) else ⟨true,.any⟩)::Pb live (n+1) r
def CA(live:List Nat)(st:DS):DS:={ st with sl:=Pb live 0 st.sl }
def Pp(live:List Nat)(st:DS):DS:={ st with sl:=Pt live 0 st.sl }
def Mo(live:List Nat)(body:DS→DT)(A:DS):Nat→DS→Option (List Hole×DS)
 | 0,cur=>(match (body cur).norm with
   |.some m=>some (MT A (CA live m))
   |_=>none)
 | n + 1,cur=>(match (body cur).norm with
   | .some m=>(match MT A (CA live m) with
     | (H,K)=>(match Ib A H with
       |some x0=>Mo live body A n (wrX K H x0)
       |none=>none))
   |_=>none)
def NS.isNone:NS→Bool
 |.none=>true
 |_=>false
section
variable (live:List Nat) (body:DS→DT) (K:DS) (H:List Hole)
def lT(x:E3 H):DT:=body (wrX K H x)
def KD(x:E3 H):Bool:=match (lT body K H x).cont with|some b=>b.b|none=>false
def Ky(x:E3 H):E3 H:=match (lT body K H x).norm with
 |.some m=>(match Ib (CA live m) H with|some y=>y|none=>x)
 |_=>x
def Xr(x:E3 H):PX:=(lT body K H x).ok.land (match (lT body K H x).norm with
 |.some m=>if Tb K (CA live m)&&(Ib (CA live m) H).isSome then .tt else .ff
 |.none=>.tt
 |.fail=>.ff)
end
def KH (live:List Nat)(n:Nat)(body:DS→DT)(st:DS):DT:=
 if (body (CA live st)).norm.isNone then (body (CA live st)).map (H8 (CA live st))
 else match Mo live body (CA live st) n (CA live st) with
 |none=>.bad
 | some (H,K)=>(match Ib (CA live st) H with
   |none=>.bad
   | some x0=>if J6 K H then
      .chk (.p (LoopOk (KD body K H) (Ky live body K H) (fun x=>(Xr live body K H x).den) x0))
       ((lT body K H (AZ (KD body K H) (Ky live body K H) x0)).drop.map (H8 (wrX K H (AZ (KD body K H) (Ky live body K H) x0))))
     else .bad)
abbrev E0:=List DV→Option (PX×DV)
abbrev Jg:=List DV→List (List DV)→Option (PX×DV×List (List DV))
structure DMk where
 r:RT
 agg:Bool
 ok:r.D→Prop
 g:r.D→Int→r.D×Int
 vd:Bool
def DMk.P(M:DMk):PMk:=⟨M.agg,fun AL m K=>∃ x,AL=M.r.enc x∧M.ok x∧K (M.r.enc (M.g x m).1) (M.g x m).2,M.vd⟩
inductive DOp where
 |a (m:Bool) (o:AOp) (ty:Option RT)
 |aw (ws:List (Nat×Nat)) (m:Bool) (o:AOp) (ty:Option RT)
 |call (m:Bool) (f:A8) (p:BV) (D:E0) (args:List Opnd)
 |mark (f:A8) (M:DMk) (x k:Opnd)
 |callp (m:Bool) (f:A8) (p:BV) (D:Jg) (args:List Opnd)
structure DOper where
 id:Nat
 dst:Option Nat
 op:DOp
 guard:Option (Nat×Bool)
 anc:List Nat
inductive DCode where
 |skip
 |region (ops:List DOper)
 |regionU (ops:List DOper)
 |seq (l:List Nat) (a b:DCode)
 |cond (c:Opnd) (a b:DCode)
 |block (id:Nat) (a:DCode)
 |loop (live:List Nat) (n:Nat) (a:DCode)
 |exit (id:Nat)
 |ret
def DOp.er:DOp→POp
 |.a m o _=>.a m o
 |.aw ws m o _=>.aw ws m o
 |.call m f p _ args=>.callk m f p args
 |.mark f M x k=>.mark f M.P x k
 |.callp m f p _ args=>.call m f p args
def DOper.er(o:DOper):POper:=⟨o.id,o.dst,o.op.er,o.guard,o.anc⟩
def DCode.er:DCode→PCode
 |.skip=>.skip
 |.region ops=>.region (ops.map DOper.er)
 |.regionU ops=>.regionU (ops.map DOper.er)
 |.seq l a b=>.seq l a.er b.er
 |.cond c a b=>.cond c a.er b.er
 |.block i a=>.block i a.er
 |.loop l _ a=>.loop l a.er
 |.exit i=>.exit i
 |.ret=>.ret
@[reducible] def oa (i d:Nat) (o:AOp):DOper:=⟨i,some d,.a false o none,none,[]⟩
@[reducible] def ob (i d:Nat) (o:AOp):DOper:=⟨i,some d,.a true o none,none,[]⟩
@[reducible] def om (i d t:Nat):DOper:=⟨i,some d,.a false (.mv (.t t)) none,none,[]⟩
@[reducible] def on (i d t:Nat):DOper:=⟨i,some d,.a true (.mv (.t t)) none,none,[]⟩
@[reducible] def oi (i d:Nat) (n:Int):DOper:=⟨i,some d,.a false (.mv (.c (.int .i64 n))) none,none,[]⟩
@[reducible] def os (i:Nat) (o:AOp):DOper:=⟨i,none,.a false o none,none,[]⟩
@[reducible] def oc (i d:Nat) (f:A8) (p:BV) (D:E0) (args:List Opnd):DOper:=⟨i,some d,.call false f p D args,none,[]⟩
@[reducible] def og (i d:Nat) (o:AOp) (g:Nat) (b:Bool):DOper:=⟨i,some d,.a false o none,some (g,b),[]⟩
@[reducible] def xA (i d:Nat) (o:AOp) (a:List Nat):DOper:=⟨i,some d,.a false o none,none,a⟩
@[reducible] def xB (i d:Nat) (o:AOp) (a:List Nat):DOper:=⟨i,some d,.a true o none,none,a⟩
@[reducible] def op (i d:Nat) (f:A8) (p:BV) (D:Jg) (args:List Opnd):DOper:=⟨i,some d,.callp false f p D args,none,[]⟩
def Xb:Nat→Nat→List Nat
 |_,0=>[]
 |k,n+1=>k::Xb (k+1) n
def rg(n:Nat):List Nat:=Xb 0 n
def Ei:List Opnd→DS→DS
 |[],st=>st
 |x::r,st=>Ei r (IM x st).2
def Es(s:List DC):List Opnd→List DV
 |[]=>[]
 |x::r=>x.dev s::Es s r
def Jc(D:E0)(args:List Opnd)(st:DS):C3:=
 let as:=Es st.sl args
 if Fh as&&!(DV.hasPtrL as) then (match D (DV.fzL as) with
  |some (g,v)=>if v.ok&&!v.hasPtr&&(v.deep||!(DV.holdL as)) then some (g,v,st) else none
  |none=>none)
 else none
def Ql.isH':Ql→Bool
 |.bor (.h _) _ _=>true
 |.pre (.h _) _=>true
 |_=>false
mutual
def DV.isH:DV→Bool
 |.nil q=>q.isH'
 |.sl q _ _=>q.isH'
 |.ep q _ _ _ _=>q.isH'
 |.agg cs=>DV.isHL cs
 |.tup vs=>DV.isHL vs
 |_=>false
def DV.isHL:List DV→Bool
 |[]=>false
 |v::r=>v.isH||DV.isHL r
end
def MD:List DC→List DC
 |[]=>[]
 |c::r=>(if c.v.isH then ⟨true,.any⟩ else c)::MD r
def EZ:List (List DC)→List (List DV)
 |[]=>[]
 |b::r=>Bh b::EZ r
def newsB:List (List DV)→List (List DC)
 |[]=>[]
 |b::r=>news b::newsB r
def Jn:List DC→List DV→List DC
 |[],vs=>news vs
 |c::r,[]=>c::r
 |c::r,v::vs=>(if v.isAny then c else ⟨true,v⟩)::Jn r vs
def Jo:List (List DC)→List (List DV)→List (List DC)
 |[],vs=>newsB vs
 |c::r,[]=>c::r
 |c::r,v::vs=>Jn c v::Jo r vs
def KQ:List DV→List DV→List DV
 |[],vs=>vs
 |c::r,[]=>c::r
 |c::r,v::vs=>(if v.isAny then c else v)::KQ r vs
def G9:List (List DV)→List (List DV)→List (List DV)
 |[],vs=>vs
 |c::r,[]=>c::r
 |c::r,v::vs=>KQ c v::G9 r vs
def PE:List (List DV)→Bool
 |[]=>true
 |b::r=>Nat.blt 0 b.length&&DV.okL b&&PE r
def EU:List (List DV)→List (List PV)
 |[]=>[]
 |b::r=>DV.encL b::EU r
def DV.isP0:DV→Bool
 |.ptr 0 0=>true
 |_=>false
def I9(D:Jg)(args:List Opnd)(st:DS):C3:=
 let as:=Es st.sl args
 if Fh as&&!(DV.holdL as)&&PE (EZ st.hp) then
  (if DV.hasPtrL as then (match D (DV.fzL as) (EZ st.hp) with
   |some (g,v,H)=>if v.ok&&!v.hasPtr then some (g,v,{ st with sl:=MD st.sl,hp:=Jo st.hp H }) else none
   |none=>none)
  else if st.hp.length == 0 then (match D (DV.fzL as) [] with
   |some (g,v,H)=>if v.isP0 then some (g,v,{ st with hp:=newsB H }) else none
   |none=>none)
  else none)
 else none
def DV.isAgg:DV→Bool
 |.agg _=>true
 |_=>false
def DV.flatc:DV→Bool
 |.bool _|.int _ _|.str _|.ifc _=>true
 |_=>false
def Pk:Nat→List DV→Option (Hd×Nat)
 |_,[]=>none
 |c,.sl (.bor hd [p] true) _ _::_=>if Nat.ble c p&&hd.sb then some (hd,p-c) else none
 |c,.nil (.bor hd [p] true)::_=>if Nat.ble c p&&hd.sb then some (hd,p-c) else none
 |c,_::r=>Pk (c+1) r
def Eu(st:DS)(hd:Hd):Nat→List DV→Option (PX×List DV)
 |_,[]=>some (.tt,[])
 |c,.sl q _ l::vs=>if CZ q (.bor hd [c] true) then (match Bt st hd [c],Eu st hd (c+1) vs with
  |.sl .own r' l',some (g,os)=>some (PX.land (.p (l.length=l'.length)) g,.sl .own r' l'::os)
  |.nil .own,some (g,os)=>some (PX.land (.p (l.length=0)) g,.nil .own::os)
  |_,_=>none) else none
 |c,.nil q::vs=>if CZ q (.bor hd [c] true) then (match Bt st hd [c],Eu st hd (c+1) vs with
  |.sl .own r' l',some (g,os)=>some (PX.land (.p (l'.length=0)) g,.sl .own r' l'::os)
  |.nil .own,some (g,os)=>some (g,.nil .own::os)
  |_,_=>none) else none
 |c,v::vs=>if v.flatc then (match Eu st hd (c+1) vs with
  |some (g,os)=>some (g,v::os)
  |none=>none) else none
def FD(hd:Hd):Nat→List DV→DS→Option DS
 |_,[],st=>some st
 | c,.sl q r l::vs,st=>(match Bt st hd [c] with
   |.sl .own _ _=>FD hd (c+1) vs (Eo st (.sl q r l) hd [c])
   |.nil .own=>FD hd (c+1) vs (Eo st (.sl q r l) hd [c])
   |_=>none)
 |_,.nil _::_,_=>none
 |c,_::vs,st=>FD hd (c+1) vs st
def Ji (M:DMk)(x k:Opnd)(st:DS):C3:=
 match k.dev st.sl with
 | .int .i64 m=>if (x.dev st.sl).isAgg == M.agg&&(x.dev st.sl).argok then (match Pk 0 (x.dev st.sl).cells with
   | some (hd,b)=>(match Eu st hd b (x.dev st.sl).cells with
     | some (g,os)=>(match M.r.of os with
       | some y=>(match FD hd b (M.r.dv .own (M.g y m).1) st with
         |some st'=>some (g.land (.p (M.ok y)),(match M.vd with|true=>.undef|false=>.int .i64 (M.g y m).2),st')
         |none=>none)
       |none=>none)
     |none=>none)
   |none=>none) else none
 |_=>none
def Cf(o:DOp)(d:Option Nat)(k:DS→DT)(st:DS):DT:=
 match o with
 | .call m _ _ D args=>(match Jc D args (if m then Ei args st else st) with
   |some (g,v,st)=>DT.chk' g (k (st.put d v))
   |none=>.bad)
 | .callp m _ _ D args=>(match I9 D args (if m then Ei args st else st) with
   |some (g,v,st)=>DT.chk' g (k (st.put d v))
   |none=>.bad)
 | .aw ws m o ty=>(match IX ws m o ty st with
   |some (g,v,st)=>DT.chk' g (k (st.put d v))
   |none=>.bad)
 | .mark _ M x y=>(match Ji M x y st with
   |some (g,v,st)=>DT.chk' g (k (st.put d v))
   |none=>.bad)
 | .a m o ty=>(match o with
   | .pick c a b=>(match c.dev st.sl with
     | .bool (.lit t)=>(match if t then AE a st else AE b st with
       |(v,st)=>if v.ok then k (st.put d v) else .bad)
     | .bool (.dyn t)=>
       if (a.dev st.sl).own||(b.dev st.sl).own||!(B5 t (a.dev st.sl) (b.dev st.sl)).ok then .node t (match AE a st with|(v,st)=>if v.ok then k (st.put d v) else .bad) (match AE b st with|(v,st)=>if v.ok then k (st.put d v) else .bad)
       else k (st.put d (B5 t (a.dev st.sl) (b.dev st.sl)))
     |_=>.bad)
   | o=>(match A4 m o ty st with
     |some (g,v,st)=>DT.chk' g (k (st.put d v))
     |none=>.bad))
def Jq(st:DS)(g:Nat)(b:Bool):DS:={ st with sl:=Ce st.sl g (.bool (.lit b)) }
def KE(o:DOper)(k:DS→DT)(st:DS):DT:=
 match o.guard with
 |none=>Cf o.op o.dst k st
 | some (g,want)=>(match AQ st.sl g with
   |.bool (.lit b)=>if b == want then Cf o.op o.dst k st else k (st.put o.dst (.tup []))
   |.bool (.dyn b)=>.node b (if want then Cf o.op o.dst k (Jq st g true) else k ((Jq st g true).put o.dst (.tup []))) (if want then k ((Jq st g false).put o.dst (.tup [])) else Cf o.op o.dst k (Jq st g false))
   |.tup []=>k (st.put o.dst (.tup []))
   |_=>.bad)
def Gj:List DOper→DS→DT
 |[],st=>.leaf .normal st
 |o::r,st=>KE o (Gj r) st
def setc(st:DS)(c:Opnd)(b:Bool):DS:=match c with
 |.t g=>Jq st g b
 |.c _=>st
def dev:DCode→DS→DT
 |.skip,st=>.leaf .normal st
 |.region ops,st=>Gj ops st
 |.regionU ops,st=>if MB (ops.map DOper.er) then Gj ops st else .bad
 |.seq l a b,st=>(dev a st.clean).then (fun st'=>dev b (H8 st (Pp l st'))) (H8 st)
 | .cond c a b,st=>(match c.dev st.sl with
   |.bool (.lit t)=>if t then dev a st else dev b st
   |.bool (.dyn t)=>.node t (dev a (setc st c true)) (dev b (setc st c false))
   |_=>.bad)
 |.block i a,st=>(dev a st).unexit i
 |.loop live n a,st=>KH live n (fun st=>dev a st.clean) st
 |.exit i,st=>.leaf (.exit i) st
 |.ret,st=>.leaf .ret st
structure DFun where
 nparams:Nat
 nslots:Nat
 nbox:Nat
 pure:Bool
 res:List ARes
 body:DCode
def DFun.er(f:DFun):PFun:=⟨f.nparams,f.nslots,f.nbox,f.pure,f.res,f.body.er⟩
def L4(st:DS):ARes→Option (DV×DS)
 |.tmp t=>if (AQ st.sl t).retok&&(AQ st.sl t).ok then some (MP (AQ st.sl t) t st) else none
 | .cell t n=>(match AQ st.sl t with
   |.box i o=>if Nat.ble (o+n.getD 1) (A7 st.bx i).length&&Gc (Bg (Bh (A7 st.bx i)) o (n.getD 1)) then (I8 true i n (.box i o) st).map (·.2) else none
   |.ptr i o=>if Nat.ble (o+n.getD 1) (A7 st.hp i).length&&Gc (Bg (Bh (A7 st.hp i)) o (n.getD 1)) then (HF true n (.ptr i o) st).map (·.2) else none
   |_=>none)
def Ke(st:DS):List ARes→Option (List DV×DS)
 |[]=>some ([],st)
 | r :: rs=>(match L4 st r with
   | some (v,st)=>(match Ke st rs with
     |some (vs,st)=>some (v::vs,st)
     |none=>none)
   |none=>none)
def Ep(st:DS):List ARes→Option DV
 |[r]=>(L4 st r).map (·.1)
 |rs=>(Ke st rs).map fun x=>.tup x.1
def DT.val(res:List ARes):DT→PX×Option DV
 |.leaf (.exit _) _=>(.ff,none)
 | .leaf _ st=>(match Ep st res with
   |some v=>if v.ok&&!v.hasPtr then (.tt,some v) else (.ff,none)
   |none=>(.ff,none))
 | .node c a b=>(match a.val res,b.val res with
   |(g,none),(g',y)=>(PX.if' c g g',y)
   |(g,x),(g',none)=>(PX.if' c g g',x)
   |(g,some x),(g',some y)=>(PX.if' c g g',some (B5 c x y)))
 | .chk g t=>(match t.val res with
   |(g',v)=>(g.land g',v))
 |.bad=>(.ff,none)
def IP(n:Nat):List DC:=match n with
 |0=>[]
 |n+1=>⟨true,.any⟩::IP n
def IW:Nat→List (List DC)
 |0=>[]
 |n+1=>[]::IW n
def MN(f:DFun)(args:List DV):PX×Option DV:=
 (dev f.body ⟨news args++IP (f.nslots-f.nparams),IW f.nbox,[]⟩).val f.res
end
def EC(c:DC)(p:PV):Prop:=c.v= .any∨p=c.v.enc
def EL:List DC→List PV→Prop
 |[],[]=>True
 |c::a,p::b=>EC c p∧EL a b
 |_,_=>False
def EBx(b:List DC)(p:List PV):Prop:=b=[]∨EL b p
def EB:List (List DC)→List (List PV)→Prop
 |[],[]=>True
 |c::a,p::b=>EBx c p∧EB a b
 |_,_=>False
structure ES (d:DS) (s:PS):Prop where
 sl:EL d.sl s.sl
 bx:EB d.bx s.bx
 hp:EB d.hp s.hp
theorem EL.len:∀ {a:List DC} {b:List PV},EL a b→a.length=b.length
 |[],[],_=>rfl
 |_::_,_::_,h=>by simp only[A6,EL.len h.2]
theorem EB.len:∀ {a:List (List DC)} {b:List (List PV)},EB a b→a.length=b.length
 |[],[],_=>rfl
 |_::_,_::_,h=>by simp only[A6,EB.len h.2]
def EV(v:DV)(p:PV):Prop:=v= .any∨p=v.enc
theorem EL.get:∀ {a:List DC} {b:List PV} (n:Nat),EL a b→EV (AQ a n) (Aa b n)
 |[],[],_,_=>.inl rfl
 |_::_,_::_,0,h=>h.1
 |_::_,_::_,n+1,h=>EL.get n h.2
theorem EL.put:∀ {a:List DC} {b:List PV} {v:DV} {p:PV} (n:Nat),EL a b→EV v p→EL (Ce a n v) (Bb b n p)
 |[],[],_,_,_,_,_=>trivial
 |_::_,_::_,_,_,0,h,hv=>⟨hv,h.2⟩
 |_::_,_::_,_,_,n+1,h,hv=>⟨h.1,EL.put n h.2 hv⟩
theorem EB.get:∀ {a:List (List DC)} {b:List (List PV)} (n:Nat),EB a b→EBx (A7 a n) (Aj b n)
 |[],[],_,_=>.inl rfl
 |_::_,_::_,0,h=>h.1
 |_::_,_::_,n+1,h=>EB.get n h.2
theorem EB.put:∀ {a:List (List DC)} {b:List (List PV)} {v:List DC} {p:List PV} (n:Nat),EB a b→EBx v p→EB (DA a n v) (Be b n p)
 |[],[],_,_,_,_,_=>trivial
 |_::_,_::_,_,_,0,h,hv=>⟨hv,h.2⟩
 |_::_,_::_,_,_,n+1,h,hv=>⟨h.1,EB.put n h.2 hv⟩
theorem DN:∀ (l:List DV),(DV.encL l).length=l.length
 |[]=>rfl
 |_::r=>by simp only[DV.encL,A6,DN r]
theorem EL.splice:∀ {a:List DC} {b:List PV} (n:Nat) (vs:List DV),EL a b→EL (FZ a n vs) (An b n (DV.encL vs))
 |[],[],_,[],_=>trivial
 |[],[],_,_::_,_=>trivial
 |_::_,_::_,0,[],h=>h
 |_::_,_::_,_+1,[],h=>h
 |_::_,_::_,0,v::vs,h=>⟨.inr rfl,EL.splice 0 vs h.2⟩
 |_::_,_::_,n+1,v::vs,h=>⟨h.1,EL.splice n (v::vs) h.2⟩
theorem Lk:∀ (cs:List DV) (n:Nat) (vs:List DV),DV.encL (FY cs n vs)=An (DV.encL cs) n (DV.encL vs)
 |[],_,[]=>rfl
 |_::_,0,[]=>rfl
 |_::_,_+1,[]=>rfl
 |[],0,_::_=>rfl
 |[],_+1,_::_=>rfl
 |_::r,0,v::vs=>by simp only[FY,DV.encL,An,Lk r 0 vs]
 |c::r,n+1,v::vs=>by simp only[FY,DV.encL,An,Lk r n (v::vs)]
theorem N4:∀ (cs:List DV) (o n:Nat),DV.encL (Bg cs o n)=segm (DV.encL cs) o n
 |[],0,0=>rfl
 |[],0,_+1=>rfl
 |[],_+1,_=>rfl
 |_::_,0,0=>rfl
 |c::r,0,n+1=>by simp only[Bg,DV.encL,segm,N4 r 0 n]
 | _::r,o+1,n=>by
   simp only[Bg,DV.encL,segm];exact N4 r o n
theorem J9:∀ (cs:List DV) (n:Nat),(Et cs n).enc=Aa (DV.encL cs) n
 |[],_=>rfl
 |_::_,0=>rfl
 |_::r,n+1=>J9 r n
theorem Oh:∀ (cs:List DV) (n:Nat) (v:DV),DV.encL (KR cs n v)=Bb (DV.encL cs) n v.enc
 |[],_,_=>rfl
 |_::_,0,_=>rfl
 |_::r,n+1,v=>by simp only[KR,DV.encL,Bb,Oh r n v]
theorem EL.segm:∀ {a:List DC} {b:List PV} (o n:Nat),EL a b→DV.okL (Bg (Bh a) o n)=true→Go.Ag.segm b o n=DV.encL (Bg (Bh a) o n)
 |[],[],0,0,_,_=>rfl
 |[],[],0,_+1,_,_=>rfl
 |[],[],_+1,_,_,_=>rfl
 |_::_,_::_,0,0,_,_=>rfl
 | c::r,p::s,0,n+1,h,hk=>by
   simp only[Bh,Bg,DV.okL,Ah] at hk
   simp only[Bh,Bg,Go.Ag.segm,DV.encL]
   rw[EL.segm 0 n h.2 hk.2]
   rcases h.1 with h1|h1
   · rw[h1] at hk;cases hk.1
   · rw[h1]
 | _::r,_::s,o+1,n,h,hk=>by
   simp only[Bh,Bg,Go.Ag.segm] at hk ⊢
   exact EL.segm o n h.2 hk
theorem Od:∀ (a:List DC),(Bh a).length=a.length
 |[]=>rfl
 |_::r=>by simp only[Bh,A6,Od r]
theorem EL.news:∀ (vs:List DV),EL (Go.Ag.news vs) (DV.encL vs)
 |[]=>trivial
 |_::r=>⟨.inr rfl,EL.news r⟩
theorem V7(q:Ql)(es:List (List PV)):(PV.sl q es).own=q.own':=by cases q<;>rfl
theorem Wv(q:Ql)(hd:Hd)(es:List (List PV)):(PV.sl q es).bor hd=q.bor' hd:=by cases q<;>rfl
theorem gP(q:Ql)(hd:Hd)(es:List (List PV))(j o:Nat):(PV.ep q es j o).bor hd=q.bor' hd:=by cases q<;>rfl
mutual
theorem GW:∀ (v:DV),v.enc.own=v.own
 |.any|.undef|.bool _|.int _ _|.str _|.ifc _|.box _ _|.ptr _ _=>rfl
 |.nil q=>V7 q []
 |.sl q _ _=>V7 q _
 |.ep q _ _ _ _=>by cases q<;>rfl
 |.agg cs=>J1 cs
 |.tup vs=>J1 vs
theorem J1:∀ (l:List DV),PV.ownL (DV.encL l)=DV.ownL l
 |[]=>rfl
 |v::r=>by simp only[DV.encL,PV.ownL,DV.ownL,GW v,J1 r]
end
mutual
theorem OI(hd:Hd):∀ (v:DV),v.enc.bor hd=v.bor hd
 |.any|.undef|.bool _|.int _ _|.str _|.ifc _|.box _ _|.ptr _ _=>rfl
 |.nil q=>Wv q hd []
 |.sl q _ _=>Wv q hd _
 |.ep q _ _ _ _=>gP q hd _ _ _
 |.agg cs=>Rn hd cs
 |.tup vs=>Rn hd vs
theorem Rn(hd:Hd):∀ (l:List DV),PV.borL hd (DV.encL l)=DV.borL hd l
 |[]=>rfl
 |v::r=>by simp only[DV.encL,PV.borL,DV.borL,OI hd v,Rn hd r]
end
mutual
theorem gE:∀ (v:DV),v.enc.hold=v.hold
 |.any|.undef|.bool _|.int _ _|.str _|.ifc _|.box _ _|.ptr _ _=>rfl
 |.nil q=>by cases q<;>rfl
 |.sl q _ _=>by cases q<;>rfl
 |.ep q _ _ _ _=>by cases q<;>rfl
 |.agg cs=>Lv cs
 |.tup vs=>Lv vs
theorem Lv:∀ (l:List DV),PV.holdL (DV.encL l)=DV.holdL l
 |[]=>rfl
 |v::r=>by simp only[DV.encL,PV.holdL,DV.holdL,gE v,Lv r]
end
mutual
theorem Xe:∀ (v:DV),v.fz.enc=v.enc.fz
 |.any|.undef|.bool _|.int _ _|.str _|.ifc _|.box _ _|.ptr _ _|.nil _|.sl _ _ _|.ep _ _ _ _ _=>rfl
 |.agg cs=>by simp only[DV.fz,DV.enc,PV.fz,Kb cs]
 |.tup cs=>by simp only[DV.fz,DV.enc,PV.fz,Kb cs]
theorem Kb:∀ (l:List DV),DV.encL (DV.fzL l)=PV.fzL (DV.encL l)
 |[]=>rfl
 |v::r=>by simp only[DV.encL,PV.fzL,DV.fzL,Xe v,Kb r]
end
mutual
theorem Qu:∀ (v:DV),v.detop.enc=v.enc.detop
 |.any|.undef|.bool _|.int _ _|.str _|.ifc _|.box _ _|.ptr _ _=>rfl
 |.nil q=>by cases q<;>rfl
 |.sl q _ _=>by cases q<;>rfl
 |.ep q _ _ _ _=>by cases q<;>rfl
 |.agg cs=>by simp only[DV.detop,DV.enc,PV.detop,Qo cs]
 |.tup cs=>by simp only[DV.detop,DV.enc,PV.detop,Qo cs]
theorem Qo:∀ (l:List DV),DV.encL (DV.detopL l)=PV.detopL (DV.encL l)
 |[]=>rfl
 |v::r=>by simp only[DV.encL,PV.detopL,DV.detopL,Qu v,Qo r]
end
mutual
theorem NP:∀ (v:DV),v.enc.hasPtr=v.hasPtr
 |.any|.undef|.bool _|.int _ _|.str _|.ifc _|.box _ _|.ptr _ _|.nil _|.sl _ _ _|.ep _ _ _ _ _=>rfl
 |.agg cs=>Is cs
 |.tup vs=>Is vs
theorem Is:∀ (l:List DV),PV.hasPtrL (DV.encL l)=DV.hasPtrL l
 |[]=>rfl
 |v::r=>by simp only[DV.encL,PV.hasPtrL,DV.hasPtrL,NP v,Is r]
end
mutual
theorem Wq:∀ (t:CT) (x:t.D),(CT.enc t x).deep=true
 |.int _,_|.bool,_|.str,_|.ifc,_=>rfl
 | .sl r,l=>by
   simp only[CT.enc,PV.deep]
   exact Rc r l
theorem Wj:∀ (r:RT) (x:r.D),PV.deepL (RT.enc r x)=true
 |.one t,x=>by simp only[RT.enc,PV.deepL,Wq t x,BM]
 |.cons t r,x=>by simp only[RT.enc,PV.deepL,Wq t x.1,Wj r x.2,BM]
theorem Rc:∀ (r:RT) (l:List r.D),PV.deepE (l.map (RT.enc r))=true
 |_,[]=>rfl
 |r,x::l=>by simp only[Bx,PV.deepE,Wj r x,Rc r l,BM]
end
theorem EL.clr(hd:Hd):∀ {a:List DC} {b:List PV},EL a b→EL (Cd hd a) (Go.Ag.clr hd b)
 |[],[],_=>trivial
 | c :: _,p::_,h=>by
   refine⟨?_,EL.clr hd h.2⟩
   by_cases hb:c.v.bor hd=true
   · rw[Ab hb];exact .inl rfl
   · rw[Ad hb]
     rcases h.1 with h1|h1
     · exact .inl h1
     · rw[h1,OI,Ad hb];exact .inr rfl
theorem fg(i:Nat)(v:DV):v.enc.isBox i=v.isBox i:=by cases v<;>rfl
theorem EL.clearBox(i:Nat):∀ {a:List DC} {b:List PV},EL a b→EL (Lu i a) (Eb i b)
 |[],[],_=>trivial
 | c :: _,p::_,h=>by
   refine⟨?_,EL.clearBox i h.2⟩
   by_cases hb:c.v.isBox i=true
   · rw[Ab hb];exact .inl rfl
   · rw[Ad hb]
     rcases h.1 with h1|h1
     · exact .inl h1
     · rw[h1,fg,Ad hb];exact .inr rfl
theorem EL.trim(live:List Nat):∀ {a:List DC} {b:List PV} (n:Nat),EL a b→EL (Pt live n a) (DZ live n b)
 |[],[],_,_=>trivial
 | c::_,p::_,n,h=>by
   refine⟨?_,EL.trim live (n+1) h.2⟩
   by_cases hb:live.contains n=true
   · rw[Ab hb,Ab hb];exact h.1
   · rw[Ad hb];exact .inl rfl
mutual
theorem Vd:∀ (v:DV),v.hasTop=false→v.detop=v
 |.any,_|.undef,_|.bool _,_|.int _ _,_|.str _,_|.ifc _,_|.box _ _,_|.ptr _ _,_=>rfl
 |.nil q,h=>by cases q<;>first|rfl|(simp only[DV.hasTop,DV.top] at h;first|(subst h;rfl)|cases h)
 |.sl q _ _,h=>by cases q<;>first|rfl|(simp only[DV.hasTop,DV.top] at h;first|(subst h;rfl)|cases h)
 |.ep q _ _ _ _,h=>by cases q<;>first|rfl|(simp only[DV.hasTop,DV.top] at h;first|(subst h;rfl)|cases h)
 |.agg cs,h=>by simp only[DV.hasTop] at h;simp only[DV.detop,Qy cs h]
 |.tup cs,h=>by simp only[DV.hasTop] at h;simp only[DV.detop,Qy cs h]
theorem Qy:∀ (l:List DV),DV.hasTopL l=false→DV.detopL l=l
 |[],_=>rfl
 | v::r,h=>by
   simp only[DV.hasTopL,El] at h
   simp only[DV.detopL,Vd v h.1,Qy r h.2]
end
theorem EL.keep(live:List Nat):∀ {a:List DC} {b:List PV} (n:Nat),EL a b→EL (Pb live n a) (CX live n b)
 |[],[],_,_=>trivial
 | c :: _,p::_,n,h=>by
   refine⟨?_,EL.keep live (n+1) h.2⟩
   by_cases hb:live.contains n=true
   · rw[Ab hb,Ab hb]
     rcases h.1 with h1|h1
     · rw[h1];exact .inl h1
     · by_cases ht:c.v.hasTop=true
       · rw[Ab ht,h1];exact .inr (Qu c.v).symm
       · rw[Ad ht,h1,← Qu,Vd c.v (by simpa using ht)];exact .inr rfl
   · rw[Ad hb];exact .inl rfl
theorem EL.clean:∀ {a:List DC} {b:List PV},EL a b→EL (Go.Ag.clean a) b
 |[],[],_=>trivial
 |_::_,_::_,h=>⟨h.1,EL.clean h.2⟩
theorem EBx.clean{a:List DC}{b:List PV}(h:EBx a b):EBx (Go.Ag.clean a) b:=by
 rcases h with rfl|h
 · exact .inl rfl
 · exact .inr h.clean
theorem EB.clean:∀ {a:List (List DC)} {b:List (List PV)},EB a b→EB (Kt a) b
 |[],[],_=>trivial
 |_::_,_::_,h=>⟨h.1.clean,EB.clean h.2⟩
theorem ES.clean{d:DS}{s:PS}(h:ES d s):ES d.clean s:=⟨h.sl.clean,h.bx.clean,h.hp.clean⟩
theorem ES.trim{d:DS}{s:PS}(l:List Nat)(h:ES d s):ES (Pp l d) { s with sl:=DZ l 0 s.sl }:=⟨h.sl.trim l 0,h.bx,h.hp⟩
theorem ES.keep{d:DS}{s:PS}(l:List Nat)(h:ES d s):ES (CA l d) { s with sl:=CX l 0 s.sl }:=⟨h.sl.keep l 0,h.bx,h.hp⟩
theorem EL.rem:∀ {x a:List DC} {b:List PV},EL a b→EL (KL x a) b
 |[],[],[],_=>trivial
 |[],_::_,_::_,h=>h
 |_::_,[],[],_=>trivial
 |_::_,_::_,_::_,h=>⟨h.1,EL.rem h.2⟩
theorem EBx.rem{x a:List DC}{b:List PV}(h:EBx a b):EBx (KL x a) b:=by
 rcases h with rfl|h
 · cases x<;>exact .inl rfl
 · exact .inr h.rem
theorem EB.rem:∀ {x a:List (List DC)} {b:List (List PV)},EB a b→EB (MO x a) b
 |[],[],[],_=>trivial
 |[],_::_,_::_,h=>h
 |_::_,[],[],_=>trivial
 |_::_,_::_,_::_,h=>⟨h.1.rem,EB.rem h.2⟩
theorem ES.rem{x d:DS}{s:PS}(h:ES d s):ES (H8 x d) s:=⟨h.sl.rem,h.bx.rem,h.hp.rem⟩
theorem ES.put{d:DS}{s:PS}(x:Option Nat)(v:DV)(h:ES d s):ES (d.put x v) (s.put x v.enc):=by
 cases x with
 |none=>exact h
 | some n=>
   simp only[DS.put,PS.put,GW];by_cases ho:v.own=true
   · rw[Ab ho,Ab ho];exact⟨(h.sl.put n (.inr rfl)).clr _,h.bx,h.hp⟩
   · rw[Ad ho,Ad ho];exact⟨h.sl.put n (.inr rfl),h.bx,h.hp⟩
theorem Ol(v:V)(h:Gf v≠.any):(Gf v).enc=AW v:=by
 cases v<;>first|rfl|skip
 case tup vs=>cases vs<;>rfl
theorem C5{d:DS}{s:PS}(x:Opnd)(h:ES d s)(hk:(AE x d).1.ok=true):(mvOut x s).1=(AE x d).1.enc∧ES (AE x d).2 (mvOut x s).2:=by
 cases x with
 | c v=>
   refine⟨?_,h⟩;refine(Ol v fun he=>?_).symm;simp only[AE,he,DV.ok,Aw] at hk
 | t n =>
   simp only[AE,MP,mvOut,Dj] at hk ⊢;rcases h.sl.get n with hg|hg
   · rw[hg] at hk;simp only[DV.own,Aw,AK,DV.ok] at hk
   · rw[hg,GW,OI];by_cases ho:(AQ d.sl n).own=true
     · simp only[ho,AB] at hk ⊢;by_cases hb:(AQ d.sl n).bor (.s n)=true
       · simp only[hb,AB,DV.ok,Aw] at hk
       · simp only[hb] at hk ⊢;exact⟨rfl,(h.sl.put n (.inl rfl)).clr _,h.bx,h.hp⟩
     · simp only[ho] at hk ⊢;exact⟨rfl,h⟩
theorem gh(v:DV)(h:v.cell=true):v.enc.cell=true:=by
 cases v<;>first|rfl|cases h|skip
 case nil q=>cases q<;>first|rfl|cases h
 case sl q r l=>cases q<;>first|rfl|cases h
theorem Iz:∀ (l:List DV),Ca l=true→AU (DV.encL l)=true
 |[],_=>rfl
 | v::r,h=>by
   simp only[Ca,Ah] at h
   simp only[DV.encL,AU,gh v h.1,Iz r h.2,BM]
theorem iB(v:DV)(h:v.cell=true):v.ok=true:=by cases v<;>first|rfl|cases h
theorem Va:∀ (l:List DV),Ca l=true→DV.okL l=true
 |[],_=>rfl
 | v::r,h=>by
   simp only[Ca,Ah] at h
   simp only[DV.okL,iB v h.1,Va r h.2,BM]
theorem GN(v:DV):v.enc.cells=DV.encL v.cells:=by cases v<;>rfl
theorem LF(v:DV)(h:Ca v.cells=true):v.ok=true:=by
 cases v<;>first|rfl|(simp only[DV.cells,Ca,DV.cell,Kx,Aw] at h)|skip
 case agg cs=>exact Va cs h
theorem Rp(v:DV)(h:v.retc=true):v.enc.retc=true:=by
 cases v<;>first|rfl|cases h|skip
 case nil q=>cases q<;>first|rfl|cases h
 case sl q r l=>cases q<;>first|rfl|cases h
theorem Om:∀ (l:List DV),Gc l=true→Df (DV.encL l)=true
 |[],_=>rfl
 | v::r,h=>by
   simp only[Gc,Ah] at h
   simp only[DV.encL,Df,Rp v h.1,Om r h.2,BM]
theorem dJ(v:DV)(h:v.retok=true):v.enc.retok=true:=by
 cases v<;>first|rfl|cases h|skip
 case nil q=>exact Rp (.nil q) h
 case sl q r l=>exact Rp (.sl q r l) h
 case agg cs=>exact Om cs h
theorem VQ(v:DV)(h:v.argc=true):v.enc.argc=true:=by cases v<;>first|rfl|cases h
theorem Vh:∀ (l:List DV),Pq l=true→Gm (DV.encL l)=true
 |[],_=>rfl
 | v::r,h=>by
   simp only[Pq,Ah] at h
   simp only[DV.encL,Gm,VQ v h.1,Vh r h.2,BM]
theorem U3(v:DV)(h:v.argok=true):v.enc.argok=true:=by
 cases v<;>first|rfl|cases h|exact VQ _ h|skip
 case agg cs=>exact Vh cs h
theorem NV:∀ (l:List DV),Fh l=true→F9 (DV.encL l)=true
 |[],_=>rfl
 | v::r,h=>by
   simp only[Fh,Ah] at h
   simp only[DV.encL,F9,U3 v h.1,NV r h.2,BM]
theorem Opnd.dev_ev{d:DS}{s:PS}(h:ES d s)(x:Opnd):EV (x.dev d.sl) (x.pev s.sl):=by
 cases x with
 |t n=>exact h.sl.get n
 | c v=>
   by_cases hv:Gf v= .any
   · exact .inl hv
   · exact .inr (Ol v hv).symm
theorem EV.of{v:DV}{p:PV}(h:EV v p)(hn:v≠.any):p=v.enc:=h.resolve_left hn
theorem aH{op:BinOp}{k:IntKind}{a b:Int}{g:PX}{v:DV}(h:Oy op k a b=some (g,v))(hg:g.den):(F2 op k a b).map PV.fl=some v.enc:=by
 cases op<;>simp only[Oy,dI,dB,Ai,Ak,reduceCtorEq] at h<;>obtain⟨rfl,rfl⟩:=h<;>simp only[F2,W4,WZ,jB,WM,Xd,jy,kD,jf,dL,Pj,Xi,Xy,Xz,Xm,Xj,DV.enc,BX.b,BB]
 · rw[Ad (show ¬ b=0 from hg)];rfl
 · rw[Ad (show ¬ b=0 from hg)];rfl
theorem TT{op:BinOp}{k:IntKind}{a b:Int}{g:PX}{v:DV}(h:O9 op k a b=some (g,v))(hg:g.den):(IB op k a b).map PV.fl=some v.enc:=by
 cases op<;>simp only[O9,Ai,Ak,reduceCtorEq] at h<;>obtain⟨rfl,rfl⟩:=h<;>simp only[IB,jm,jg,DV.enc]<;>rw[Ad (show ¬ b<0 from Int.not_lt.mpr hg)]<;>rfl
theorem OK{k k':IntKind}(h:IntKind.same k k'=true):k=k':=by simpa [IntKind.same] using h
theorem cA{op:BinOp}{a b:DV}{p q:PV}{g:PX}{v:DV}(ha:EV a p)(hb:EV b q)(h:KO op a b=some (g,v))(hg:g.den):KG op p q=some v.enc:=by
 cases a<;>try (simp only[KO,reduceCtorEq] at h)
 case int k a=>
  cases b<;>try (simp only[KO,reduceCtorEq] at h)
  case int k' b=>
   rw[ha.of (by simp),hb.of (by simp)];simp only[DV.enc,KG,Fy];by_cases h1:op= .shl
   · subst h1;exact TT h hg
   · by_cases h2:op= .shr
     · subst h2;exact TT h hg
     · have h3:(if IntKind.same k k'=true then Oy op k a b else none)=some (g,v):=by cases op<;>first|exact h|exact absurd rfl h1|exact absurd rfl h2
       by_cases hk:IntKind.same k k'=true
       · rw[Ab hk] at h3;have:=OK hk;subst this;have h4:=aH h3 hg
         cases op<;>simp only[AB]<;>first|exact h4|exact absurd rfl h1|exact absurd rfl h2
       · rw[Ad hk] at h3;cases h3
 case str a=>
  cases b<;>try (simp only[KO,reduceCtorEq] at h)
  case str b=>
   rw[ha.of (by simp),hb.of (by simp)];cases op<;>simp only[KO,dB,Ai,Ak,reduceCtorEq] at h<;>obtain⟨rfl,rfl⟩:=h<;>simp only[DV.enc,KG,Fy,W2,Xn,Xu,BX.b,BB];rw[Ab (show a.length+b.length≤9223372036854775807 from hg)];rfl
theorem R7(x:BX):x.not.b=!x.b:=by cases x<;>simp only[BX.not,BX.b,Kk]
theorem kG(x y:BX):(x.eq y).b=(x.b == y.b):=by
 cases x with
 | lit a=>cases y with
   |lit b=>rfl
   |dyn b=>cases a<;>cases b<;>simp only[BX.eq,BX.b,Kk]<;>rfl
 | dyn a=>cases y with
   |lit b=>cases a<;>cases b<;>simp only[BX.eq,BX.b,Kk]<;>rfl
   |dyn b=>simp only[BX.eq,BX.b,WD]
theorem dg{neg:Bool}{a b:DV}{p q:PV}{g:PX}{v:DV}(ha:EV a p)(hb:EV b q)(h:PA neg a b=some (g,v)):Mt neg p q=some v.enc:=by
 cases a<;>try (simp only[PA,reduceCtorEq] at h)
 case bool a=>
  cases b<;>try (simp only[PA,reduceCtorEq] at h)
  case bool b=>
   rw[ha.of (by simp),hb.of (by simp)];simp only[Di,Ai,Ak] at h;obtain⟨rfl,rfl⟩:=h;cases neg<;>simp only[DV.enc,Mt,AB,Aw,AK,R7,kG]
theorem de{neg:Bool}{a:DV}{p:PV}{g:PX}{v:DV}(ha:EV a p)(h:Ta neg a=some (g,v)):Mu neg p=some v.enc:=by
 cases a<;>try (simp only[Ta,reduceCtorEq] at h)
 case ifc a=>
  rw[ha.of (by simp)];simp only[dB,Ai,Ak] at h;obtain⟨rfl,rfl⟩:=h;cases neg<;>simp only[DV.enc,Mu,AB,Aw,AK,Kk,BX.b]
theorem eG{op:UnOp}{a:DV}{p:PV}{g:PX}{v:DV}(ha:EV a p)(h:Tc op a=some (g,v)):MI op p=some v.enc:=by
 cases op<;>cases a<;>simp only[Tc,Di,dI,Ai,Ak,reduceCtorEq] at h<;>obtain⟨rfl,rfl⟩:=h<;>rw[ha.of (by simp)]<;>simp only[DV.enc,MI,HZ,BB,R7,jH]
theorem bG{k:IntKind}{a:DV}{p:PV}{g:PX}{v:DV}(ha:EV a p)(h:SS k a=some (g,v)):Mm k p=some v.enc:=by
 cases a<;>simp only[SS,dI,Ai,Ak,reduceCtorEq] at h;obtain⟨rfl,rfl⟩:=h;rw[ha.of (by simp)];simp only[DV.enc,Mm,V6]
theorem bq{a:DV}{p:PV}{g:PX}{v:DV}(ha:EV a p)(h:Ss a=some (g,v)):Ow p=some v.enc:=by
 cases a<;>simp only[Ss,Di,Ai,Ak,reduceCtorEq] at h<;>obtain⟨rfl,rfl⟩:=h<;>rw[ha.of (by simp)]<;>rfl
theorem aI{off:Nat}{a:DV}{p:PV}{g:PX}{v:DV}(ha:EV a p)(h:RA off a=some (g,v)):On off p=some v.enc:=by
 cases a<;>simp only[RA,Di,Ai,Ak,reduceCtorEq] at h<;>obtain⟨rfl,rfl⟩:=h<;>rw[ha.of (by simp)]<;>rfl
theorem cW{a:DV}{p:PV}{g:PX}{v:DV}(ha:EV a p)(h:S7 a=some (g,v)):Mq p=some v.enc:=by
 cases a<;>simp only[S7,dI,Ai,Ak,reduceCtorEq] at h<;>obtain⟨rfl,rfl⟩:=h<;>rw[ha.of (by simp)]<;>simp only[DV.enc,Mq,Az,Sa,AV]<;>rfl
theorem b5{a:DV}{p:PV}{g:PX}{v:DV}(ha:EV a p)(h:SV a=some (g,v)):L6 p=some v.enc:=by
 cases a<;>simp only[SV,dI,Ai,Ak,reduceCtorEq] at h;obtain⟨rfl,rfl⟩:=h;rw[ha.of (by simp)];simp only[DV.enc,L6,Sa]
theorem bl{a b:DV}{p q:PV}{g:PX}{v:DV}(ha:EV a p)(hb:EV b q)(h:O3 a b=some (g,v))(hg:g.den):LQ p q=some v.enc:=by
 cases a<;>try (simp only[O3,reduceCtorEq] at h)
 cases b<;>simp only[O3,Ai,Ak,reduceCtorEq] at h;obtain⟨rfl,rfl⟩:=h;rw[ha.of (by simp),hb.of (by simp)];simp only[DV.enc,LQ,WN];exact Ab hg
theorem HJ:∀ (r:RT) (x:r.D),(RT.enc r x).length=r.w
 |.one _,_=>rfl
 |.cons _ r,x=>by simp only[RT.enc,A6,RT.w,HJ r x.2]
theorem Ds(r:RT):∀ (l:List r.D),BE r.w (l.map (RT.enc r))=true
 |[]=>rfl
 |x::l=>by simp only[Bx,BE,HJ,beq_self_eq_true,Ds r l,BM]
theorem aC{w:Nat}{x:Opnd}{a b:DV}{p q:PV}{g:PX}{v:DV}(ha:EV a p)(hb:EV b q)(h:LW w x a b=some (g,v))(hg:g.den):LA w x p q=some v.enc:=by
 cases a<;>try (simp only[LW,reduceCtorEq] at h)
 case sl q' r l=>
  cases b<;>try (simp only[LW,reduceCtorEq] at h)
  case int k j=>
   rw[ha.of (by simp),hb.of (by simp)];by_cases hw:(r.w == w)=true
   · rw[Ab hw] at h
     have hw':r.w=w:=by simpa using hw
     subst hw'
     cases hq:Dd x q' with
     |none=>rw[hq] at h;cases h
     | some q2=>
       rw[hq] at h;simp only[Ai,Ak] at h;obtain⟨rfl,rfl⟩:=h;simp only[DV.enc,LA,Az,Sn];rw[Ab ⟨hg.1,hg.2,Ds r l⟩,hq];rfl
   · rw[Ad hw] at h;cases h
 case nil q'=>cases b<;>simp only[LW,reduceCtorEq] at h
theorem cQ{a b:DV}{p q:PV}{g:PX}{v:DV}(ha:EV a p)(hb:EV b q)(h:S4 a b=some (g,v)):MF p q=some v.enc:=by
 unfold S4 at h;split at h
 · simp only[dI,Ai,Ak] at h;obtain⟨rfl,rfl⟩:=h;rw[ha.of (by simp),hb.of (by simp)];simp only[DV.enc,MF,jF]
 · cases h
theorem cv{a b:DV}{p q:PV}{g:PX}{v:DV}(ha:EV a p)(hb:EV b q)(h:S9 a b=some (g,v)):MC p q=some v.enc:=by
 unfold S9 at h;split at h
 · simp only[dI,Ai,Ak] at h;obtain⟨rfl,rfl⟩:=h;rw[ha.of (by simp),hb.of (by simp)];simp only[DV.enc,MC,jD]
 · cases h
theorem land_den(a b:PX):(a.land b).den↔a.den∧b.den:=by
 cases a<;>cases b<;>simp[PX.land,PX.den]
theorem NF{d:Nat}{x:Option DV}{y:Option PV}{g:PX}{n:Nat}(hx:match x,y with|none,none=>True|some v,some p=>EV v p|_,_=>False)(h:Fs d x=some (g,n))(hg:g.den):G5 d y=some n:=by
 cases x with
 | none=>
   cases y with
   |none=>simp only[Fs,Ai,Ak] at h;rw[← h.2];rfl
   |some p=>cases hx
 | some v=>
   cases y with
   |none=>cases hx
   | some p=>
     cases v<;>simp only[Fs,Ai,Ak,reduceCtorEq] at h;obtain⟨rfl,rfl⟩:=h;rw[EV.of hx (by simp)];simp only[DV.enc,G5,Sn];exact Ab hg
theorem aS{lo hi:Option DV}{lo' hi':Option PV}{a:DV}{p:PV}{g:PX}{v:DV}(hl:match lo,lo' with|none,none=>True|some v,some p=>EV v p|_,_=>False)(hh:match hi,hi' with|none,none=>True|some v,some p=>EV v p|_,_=>False)(ha:EV a p)(h:RN lo hi a=some (g,v))(hg:g.den):LK lo' hi' p=some v.enc:=by
 cases a<;>try (simp only[RN,reduceCtorEq] at h)
 case str t=>
  rw[ha.of (by simp)]
  cases h1:Fs 0 lo with
  |none=>rw[h1] at h;cases h
  | some x=>
    cases h2:Fs (lN t) hi with
    |none=>rw[h1,h2] at h;cases h
    | some y=>
      obtain⟨g1,a⟩:=x;obtain⟨g2,b⟩:=y;rw[h1,h2] at h;simp only[Ai,Ak] at h;obtain⟨rfl,rfl⟩:=h;rw[land_den,land_den] at hg;have e1:=NF hl h1 hg.1.1;have e2:=NF hh h2 hg.1.2;simp only[MJ] at e2;simp only[DV.enc,LK,e1,e2,Sc];exact Ab hg.2
theorem br{w:Nat}{x:Opnd}{lo hi:Option DV}{lo' hi':Option PV}{a:DV}{p:PV}{g:PX}{v:DV}(hl:match lo,lo' with|none,none=>True|some v,some p=>EV v p|_,_=>False)(hh:match hi,hi' with|none,none=>True|some v,some p=>EV v p|_,_=>False)(ha:EV a p)(h:Sj w x lo hi a=some (g,v))(hg:g.den):LS w x lo' hi' p=some v.enc:=by
 cases a<;>try (simp only[Sj,reduceCtorEq] at h)
 case sl q r t=>
  rw[ha.of (by simp)]
  cases h1:Fs 0 lo with
  |none=>rw[h1] at h;cases h
  | some x1 =>
    cases h2:Fs (lN t) hi with
    |none=>rw[h1,h2] at h;cases h
    | some y=>
      obtain⟨g1,a⟩:=x1;obtain⟨g2,b⟩:=y;rw[h1,h2] at h;simp only at h;by_cases hw:(r.w == w)=true
      · rw[Ab hw] at h
        have hw':r.w=w:=by simpa using hw
        subst hw'
        cases hq:XG x lo.isNone q with
        |none=>rw[hq] at h;cases h
        | some q'=>
          rw[hq] at h;simp only[Ai,Ak] at h;obtain⟨rfl,rfl⟩:=h;rw[land_den,land_den] at hg;have e1:=NF hl h1 hg.1.1;have e2:=NF hh h2 hg.1.2;simp only[MJ] at e2
          have hz:Dg x (if lo'.isNone=true then 0 else 1) q=some q':=by
           have:lo'.isNone=lo.isNone:=by cases lo<;>cases lo'<;>first|rfl|exact hl.elim
           rw[this];exact hq
          simp only[DV.enc,LS,Az,e1,e2,Sc,hz];rw[Ab ⟨hg.2.1,hg.2.2.1,hg.2.2.2,Ds r t⟩,OX,List.map_drop];rfl
      · rw[Ad hw] at h;cases h
theorem fA(hd:Hd)(p:List Nat)(v:DV):(SZ hd p v).enc=BI hd p v.enc:=by
 cases v<;>first|rfl|skip
 case nil q=>cases q<;>rfl
 case sl q r l=>cases q<;>rfl
theorem LL(hd:Hd):∀ (n:Nat) (l:List DV),DV.encL (Ge hd n l)=Er hd n (DV.encL l)
 |_,[]=>rfl
 |n,v::r=>by simp only[Ge,DV.encL,Er,fA,LL hd (n+1) r]
theorem JY{n:Option Nat}{cs:List DV}{v:DV}(h:Dw n cs=some v):Cz n (DV.encL cs)=some v.enc:=by
 cases n with
 |some n=>simp only[Dw,Ai] at h;subst h;rfl
 | none=>match cs,h with
   |[x],h=>simp only[Dw,Ai] at h;subst h;rfl
theorem bz{off:Nat}{n:Option Nat}{x:Opnd}{a:DV}{p:PV}{g:PX}{v:DV}(ha:EV a p)(h:Sl off n x a=some (g,v)):LP off n x p=some v.enc:=by
 cases a<;>try (simp only[Sl,reduceCtorEq] at h)
 case agg cs=>
  rw[ha.of (by simp)]
  cases x with
  |c _=>cases h
  | t t =>
    simp only at h;by_cases hc:(Nat.ble (off+n.getD 1) cs.length&&DV.okL (Bg cs off (n.getD 1)))=true
    · rw[Ab hc] at h;rw[Ah] at hc
      cases hv:Dw n (Ge (.s t) off (Bg cs off (n.getD 1))) with
      |none=>rw[hv] at h;cases h
      | some w=>
        rw[hv] at h;simp only[BB,Ai,Ak] at h;obtain⟨rfl,rfl⟩:=h;have:=JY hv;rw[LL,N4] at this;simp only[DV.enc,LP,DN];rw[Ab (BS hc.1)];exact this
    · rw[Ad hc] at h;cases h
theorem bp:∀ {r:RT} {l:List r.D} {s:List UInt8},Pd r l=some s→Bj (l.map (RT.enc r))=some s
 | .one (.int .u8),l,s,h=>by
   simp only[Pd,Ai] at h
   subst h
   refine Eq.trans ?_ (congrArg some (WG l).symm)
   induction l with
   |nil=>rfl
   | cons x l ih=>
     show (Bj (l.map (RT.enc (.one (.int .u8))))).map (fun s=>UInt8.ofNat (Int.toNat x)::s)=_
     rw[ih];rfl
theorem bN{a:DV}{p:PV}{g:PX}{v:DV}(ha:EV a p)(h:S0 a=some (g,v)):L5 p=some v.enc:=by
 cases a<;>try (simp only[S0,reduceCtorEq] at h)
 case nil q=>
  rw[ha.of (by simp)];simp only[Di,Ai,Ak] at h;obtain⟨rfl,rfl⟩:=h;rfl
 case sl q r l=>
  rw[ha.of (by simp)]
  cases hs:Pd r l with
  |none=>rw[hs] at h;cases h
  | some s=>
    rw[hs] at h;simp only[BB,Ai,Ak] at h;obtain⟨rfl,rfl⟩:=h;simp only[DV.enc,L5,bp hs,BB]
theorem TF:∀ {a b:List DV} {t:BX},Hw a b=some t→∃ x y,CD (DV.encL a)=some x∧CD (DV.encL b)=some y∧x.length=a.length∧y.length=b.length∧x.all V.flat=true∧y.all V.flat=true∧Cw x y=some t.b
 | [],[],t,h=>by
   simp only[Hw,Ai] at h;subst h;exact⟨[],[],rfl,rfl,rfl,rfl,rfl,rfl,rfl⟩
 | .int k a::x,.int k' b::y,t,h=>by
   unfold Hw at h;by_cases hk:IntKind.same k k'=true
   · rw[Ab hk] at h;have:=OK hk;subst this
     have key:∀ t',Hw x y=some t'→t.b=((a == b)&&t'.b)→∃ x1 y1,CD (DV.encL (.int k a::x))=some x1∧CD (DV.encL (.int k b::y))=some y1∧x1.length=(DV.int k a::x).length∧y1.length=(DV.int k b::y).length∧x1.all V.flat=true∧y1.all V.flat=true∧Cw x1 y1=some t.b:=by
      intro t' ht hb;obtain⟨x1,y1,h1,h2,h3,h4,h5,h6,h7⟩:=TF ht;refine⟨.int k a::x1,.int k b::y1,?_,?_,by simp[h3],by simp[h4],?_,?_,?_⟩
      · simp only[DV.encL,DV.enc,CD,h1]
      · simp only[DV.encL,DV.enc,CD,h2]
      · simp only[DW,V.flat,h5,BM]
      · simp only[DW,V.flat,h6,BM]
      · simp only[Cw,Kr,AB]
        cases hab:(a == b) with
        |true=>simp only[h7,hb,hab,Bool.true_and]
        |false=>simp only[hb,hab,KA]
     split at h
     · simp only[Ai] at h;subst h;exact key (.lit true) rfl (by simp only[BX.b,Pj,Kx])
     · cases ht:Hw x y with
       |none=>rw[ht] at h;cases h
       | some t'=>
         rw[ht] at h;simp only[BB,Ai] at h;subst h;exact key t' ht (by simp only[BX.b,Pj,R6])
   · rw[Ad hk] at h;cases h
theorem cj{n:Nat}{neg:Bool}{a b:DV}{p q:PV}{g:PX}{v:DV}(ha:EV a p)(hb:EV b q)(h:PB n neg a b=some (g,v)):MG n neg p q=some v.enc:=by
 cases a<;>try (simp only[PB,reduceCtorEq] at h)
 case agg a=>
  cases b<;>try (simp only[PB,reduceCtorEq] at h)
  case agg b=>
   rw[ha.of (by simp),hb.of (by simp)];by_cases hl:(a.length == n&&b.length == n)=true
   · rw[Ab hl] at h;rw[Ah,AA,AA] at hl
     cases ht:Hw a b with
     |none=>rw[ht] at h;cases h
     | some t=>
       rw[ht] at h;simp only[Di,Ai,Ak] at h;obtain⟨rfl,rfl⟩:=h;obtain⟨x,y,h1,h2,h3,h4,h5,h6,h7⟩:=TF ht;simp only[DV.enc,MG,h1,h2];rw[Ab ⟨h3.trans hl.1,h4.trans hl.2,h5,h6⟩,h7];cases neg<;>simp only[BB,AB,Aw,AK,R7]
   · rw[Ad hl] at h;cases h
theorem OS{d:DS}{s:PS}(h:ES d s)(x:Option Opnd):match x.map (fun x=>x.dev d.sl),x.map (fun x=>x.pev s.sl) with|none,none=>True|some v,some p=>EV v p|_,_=>False:=by
 cases x with
 |none=>exact trivial
 |some x=>exact x.dev_ev h
theorem CL{s:PS}{o:Option PV}{v:PV}(h:o=some v):B9 s o=some (v,s):=by rw[h];rfl
theorem b9{d:DS}{s:PS}{o:AOp}{m:Bool}{g:PX}{v:DV}(hs:ES d s)(h:KC o (fun x=>x.dev d.sl)=some (g,v))(hg:g.den):AX m o s=some (v.enc,s):=by
 have E:=fun x=>Opnd.dev_ev hs x
 cases o<;>simp only[KC,reduceCtorEq] at h<;>simp only[AX]
 case nilck x=>exact CL (bq (E x) h)
 case bin op x y=>exact CL (cA (E x) (E y) h hg)
 case eqB neg x y=>exact CL (dg (E x) (E y) h)
 case eqN neg x y=>
  split at h
  · exact CL (de (E x) h)
  · cases h
 case eqA n neg x y=>exact CL (cj (E x) (E y) h)
 case un op x=>exact CL (eG (E x) h)
 case conv k x=>exact CL (bG (E x) h)
 case bstr x=>exact CL (bN (E x) h)
 case slice w x lo hi=>exact CL (br (OS hs lo) (OS hs hi) (E x) h hg)
 case substr x lo hi=>exact CL (aS (OS hs lo) (OS hs hi) (E x) h hg)
 case fieldA off a=>exact CL (aI (E a) h)
 case field off n x=>exact CL (bz (E x) h)
 case indexA w x i=>exact CL (aC (E x) (E i) h hg)
 case index x i=>exact CL (bl (E x) (E i) h hg)
 case len x=>exact CL (cW (E x) h)
 case lenT x=>exact CL (b5 (E x) h)
 case minI x y=>exact CL (cQ (E x) (E y) h)
 case maxI x y=>exact CL (cv (E x) (E y) h)
theorem Q2:∀ (l:List DV),DV.okL l=true→EL (news (Kz l)) (BN (DV.encL l))
 |[],_=>trivial
 | v::r,h=>by
   simp only[DV.okL,Ah] at h
   refine⟨?_,Q2 r h.2⟩
   simp only[GW]
   by_cases ho:v.own=true
   · rw[Ab ho,Ab ho];exact .inl rfl
   · rw[Ad ho,Ad ho];exact .inr rfl
theorem EL.spliceE:∀ {a:List DC} {b:List PV} (n:Nat) {vs:List DV} {ps:List PV},EL a b→EL (Go.Ag.news vs) ps→EL (FZ a n vs) (An b n ps)
 |[],[],_,[],[],_,_=>trivial
 |[],[],_,_::_,_::_,_,_=>trivial
 |_::_,_::_,0,[],[],h,_=>h
 |_::_,_::_,_+1,[],[],h,_=>h
 |_::_,_::_,0,_::_,_::_,h,hv=>⟨hv.1,EL.spliceE 0 h.2 hv.2⟩
 |_::_,_::_,n+1,_::_,_::_,h,hv=>⟨h.1,EL.spliceE n h.2 hv⟩
theorem EBx.to{a:List DC}{b:List PV}(h:EBx a b)(hn:0<a.length):EL a b:=by
 rcases h with rfl|h
 · exact absurd hn (Nat.lt_irrefl 0)
 · exact h
theorem EBx.segm{a:List DC}{b:List PV}{o n:Nat}(h:EBx a b)(hl:o+n≤a.length)(hk:DV.okL (Bg (Bh a) o n)=true):o+n≤b.length∧Go.Ag.segm b o n=DV.encL (Bg (Bh a) o n):=by
 rcases h with rfl|h
 · have h0:o=0∧n=0:=by simp only[AV] at hl;omega
   rw[h0.1,h0.2];exact⟨Fl _,by cases b<;>rfl⟩
 · exact⟨by rw[← h.len];exact hl,h.segm o n hk⟩
theorem EBx.splice{a:List DC}{b:List PV}{o:Nat}{vs:List DV}{ps:List PV}(h:EBx a b)(hv:EL (news vs) ps)(hl:o+vs.length≤a.length):EBx (FZ a o vs) (An b o ps):=by
 rcases h with rfl|h
 · have h0:vs=[]:=by
    cases vs with
    |nil=>rfl
    |cons _ _=>simp only[A6,AV] at hl;omega
   subst h0;exact .inl rfl
 · exact .inr (h.spliceE o hv)
theorem N3:∀ (l:List DV) (o n:Nat),o+n≤l.length→(Bg l o n).length=n
 |[],0,0,_=>rfl
 |[],0,_+1,h=>by simp only[AV] at h;omega
 |[],_+1,_,h=>by simp only[AV] at h;omega
 |_::_,0,0,_=>rfl
 |_::r,0,n+1,h=>by simp only[Bg,A6] at h ⊢;rw[N3 r 0 n (by omega)]
 |_::r,o+1,n,h=>by simp only[Bg,A6] at h ⊢;exact N3 r o n (by omega)
theorem QL:∀ (l:List DV),(Kz l).length=l.length
 |[]=>rfl
 |_::r=>by simp only[Kz,A6,QL r]
theorem TX{m:Bool}{i:Nat}{n:Option Nat}{a:DV}{p:PV}{d d':DS}{s:PS}{g:PX}{v:DV}(hs:ES d s)(ha:EV a p)(h:I8 m i n a d=some (g,v,d')):∃ s',II m i n p s=some (v.enc,s')∧ES d' s':=by
 cases a<;>try (simp only[I8,reduceCtorEq] at h)
 case box j o=>
  rw[ha.of (by simp)];by_cases hc:(i == j&&Nat.ble (o+n.getD 1) (A7 d.bx i).length&&DV.okL (Bg (Bh (A7 d.bx i)) o (n.getD 1)))=true
  · rw[Ab hc] at h;rw[Ah,Ah,AA] at hc;obtain⟨⟨rfl,hl⟩,hk⟩:=hc;have hl:=BS hl;obtain⟨h1,h2⟩:=(hs.bx.get i).segm hl hk;simp only[DV.enc,II];rw[Ab ⟨trivial,h1⟩,h2]
    cases m with
    | true=>
      simp only[AB] at h ⊢
      cases hv:Dw n (Bg (Bh (A7 d.bx i)) o (n.getD 1)) with
      |none=>rw[hv] at h;cases h
      | some w=>
        rw[hv] at h;simp only[BB,Ai,Ak] at h;obtain⟨_,rfl,rfl⟩:=h;rw[JY hv];refine⟨_,rfl,hs.sl.clr _,hs.bx.put i ((hs.bx.get i).splice (Q2 _ hk) ?_),hs.hp⟩;rw[QL,N3 _ _ _ (by rw[Od];exact hl)];exact hl
    | false=>
      simp only[Aw,AK] at h ⊢
      cases hv:Dw n (Ge (.b i) o (Bg (Bh (A7 d.bx i)) o (n.getD 1))) with
      |none=>rw[hv] at h;cases h
      | some w=>
        rw[hv] at h;simp only[BB,Ai,Ak] at h;obtain⟨_,rfl,rfl⟩:=h;have:=JY hv;rw[LL] at this;rw[this];exact⟨_,rfl,hs⟩
  · rw[Ad hc] at h;cases h
theorem WJ{q q':Ql}(h:KM q=some q'):∀ (t:CT) (x:t.D),(CT.dv q' t x).enc=Hb q (CT.enc t x)
 |.int _,_|.bool,_|.str,_=>by cases q<;>rfl
 |.ifc,_=>by cases q<;>rfl
 |.sl r,l=>by cases q<;>simp only[KM,Ai,reduceCtorEq] at h<;>subst h<;>rfl
theorem W8{q q':Ql}(h:KM q=some q'):∀ (r:RT) (x:r.D),DV.encL (r.dv q' x)=DE q (RT.enc r x)
 |.one t,x=>by simp only[RT.dv,DV.encL,RT.enc,DE,WJ h t x]
 |.cons t r,x=>by simp only[RT.dv,DV.encL,RT.enc,DE,WJ h t x.1,W8 h r x.2]
theorem EJ(r:RT):∀ (l:List r.D) (j:Nat),j<l.length→As (l.map (RT.enc r)) j=RT.enc r (l.getD j r.dflt)
 |_::_,0,_=>rfl
 |_::l,j+1,h=>EJ r l j (by simpa using h)
theorem QC(q:Ql):∀ (l:List PV) (o n:Nat),DE q (Go.Ag.segm l o n)=Go.Ag.segm (DE q l) o n
 |[],0,0=>rfl
 |[],0,_+1=>rfl
 |[],_+1,_=>rfl
 |_::_,0,0=>rfl
 |c::r,0,n+1=>by simp only[Go.Ag.segm,DE,QC q r 0 n]
 |_::r,o+1,n=>by simp only[Go.Ag.segm,DE];exact QC q r o n
theorem cw{q q':Ql}(h:KM q=some q'):q.isOwn=false:=by cases q<;>first|rfl|cases h
theorem T5{m:Bool}{n:Option Nat}{a:DV}{p:PV}{d d':DS}{s:PS}{g:PX}{v:DV}(hs:ES d s)(ha:EV a p)(h:HF m n a d=some (g,v,d'))(hg:g.den):∃ s',HA m n p s=some (v.enc,s')∧ES d' s':=by
 cases a<;>try (simp only[HF,reduceCtorEq] at h)
 case ep q r l j o=>
  rw[ha.of (by simp)]
  cases hq:KM q with
  |none=>rw[hq] at h;cases h
  | some q'=>
    rw[hq] at h;simp only at h;by_cases hc:Nat.ble (o+n.getD 1) r.w=true
    · rw[Ab hc] at h
      cases hv:Dw n (Bg (r.dv q' (lGet l j r.dflt)) o (n.getD 1)) with
      |none=>rw[hv] at h;cases h
      | some w=>
        rw[hv] at h;simp only[BB,Ai,Ak] at h;obtain⟨rfl,rfl,rfl⟩:=h;have hj:j<l.length:=hg;have:=JY hv;rw[N4,W8 hq,← QC,Ko,← EJ r l j hj] at this;simp only[DV.enc,HA,Az];rw[Ab ⟨hj,by rw[EJ r l j hj,HJ];exact BS hc,cw hq⟩,this];exact⟨_,rfl,hs⟩
    · rw[Ad hc] at h;cases h
 case ptr i o=>
  rw[ha.of (by simp)];by_cases hc:(Nat.blt i d.hp.length&&Nat.ble (o+n.getD 1) (A7 d.hp i).length&&DV.okL (Bg (Bh (A7 d.hp i)) o (n.getD 1)))=true
  · rw[Ab hc] at h;rw[Ah,Ah] at hc;obtain⟨⟨hi,hl⟩,hk⟩:=hc;have hi:=BS hi;have hl:=BS hl;obtain⟨h1,h2⟩:=(hs.hp.get i).segm hl hk;simp only[DV.enc,HA];rw[Ab ⟨by rw[← hs.hp.len];exact hi,h1⟩,h2]
    cases m with
    | true=>
      simp only[AB] at h ⊢
      cases hv:Dw n (Bg (Bh (A7 d.hp i)) o (n.getD 1)) with
      |none=>rw[hv] at h;cases h
      | some w=>
        rw[hv] at h;simp only[BB,Ai,Ak] at h;obtain⟨_,rfl,rfl⟩:=h;rw[JY hv];refine⟨_,rfl,hs.sl.clr _,hs.bx,hs.hp.put i ((hs.hp.get i).splice (Q2 _ hk) ?_)⟩;rw[QL,N3 _ _ _ (by rw[Od];exact hl)];exact hl
    | false=>
      simp only[Aw,AK] at h ⊢
      cases hv:Dw n (Ge (.h i) o (Bg (Bh (A7 d.hp i)) o (n.getD 1))) with
      |none=>rw[hv] at h;cases h
      | some w=>
        rw[hv] at h;simp only[BB,Ai,Ak] at h;obtain⟨_,rfl,rfl⟩:=h;have:=JY hv;rw[LL] at this;rw[this];exact⟨_,rfl,hs⟩
  · rw[Ad hc] at h;cases h
theorem EL.clrD(hd:Hd):∀ {a:List DC} {b:List PV},EL a b→EL (Cd hd a) b
 |[],[],_=>trivial
 | c::_,p::_,h=>by
   refine⟨?_,EL.clrD hd h.2⟩
   by_cases hb:c.v.bor hd=true
   · rw[Ab hb];exact .inl rfl
   · rw[Ad hb];exact h.1
theorem EL.clr2{hd:Hd}{a:List DC}{b:List PV}{x:Bool}{y:Bool}(h:EL a b)(hxy:x=false→y=false):EL (if x then Cd hd a else a) (if y then Go.Ag.clr hd b else b):=by
 cases x with
 |false=>rw[hxy rfl];exact h
 | true=>cases y with
   |false=>exact h.clrD hd
   |true=>exact h.clr hd
theorem aP{i n:Nat}{a x:Opnd}{d d':DS}{s:PS}{g:PX}{v:DV}(hs:ES d s)(h:LX i n a x d=some (g,v,d')):∃ s',LC i n a x s=some (v.enc,s')∧ES d' s':=by
 unfold LX at h;have ha:=a.dev_ev hs;generalize hm:AE x d=w at h;obtain⟨w,d1⟩:=w;simp only at h;generalize a.dev d.sl=av at h ha
 cases av<;>try (simp only[reduceCtorEq] at h)
 case box j o=>
  by_cases hc:(i == j&&Nat.blt i d1.bx.length&&w.cells.length == n&&Nat.ble (o+n) (A7 d1.bx i).length&&Ca w.cells)=true
  · rw[Ab hc] at h;simp only[Ah,AA] at hc;obtain⟨⟨⟨⟨rfl,hi⟩,rfl⟩,hl⟩,hcl⟩:=hc;have hi:=BS hi;have hl:=BS hl;have hok:=LF w hcl;obtain⟨m1,m2⟩:=C5 x hs (by rw[hm];exact hok);rw[hm] at m1 m2;simp only[Ai,Ak] at h;obtain⟨rfl,rfl,rfl⟩:=h;have hbx:=m2.bx.get i
    have hel:o+w.cells.length≤(Aj (mvOut x s).2.bx i).length:=by
     rcases hbx with he|he
     · rw[he] at hl;simp only[AV] at hl;omega
     · rw[← he.len];exact hl
    simp only[LC,ha.of (by simp:DV.box i o≠.any),DV.enc,m1,GN,DN,GW];rw[Ab ⟨trivial,by rw[← m2.bx.len];exact hi,trivial,hel,Iz _ hcl⟩];refine⟨_,rfl,m2.sl.clr2 fun hx=>?_,m2.bx.put i (hbx.splice (EL.news w.cells) hl),m2.hp⟩;simp only[El,Jh] at hx ⊢;rw[(hbx.segm hl hx.1.1).2,J1];exact⟨hx.1.2,hx.2⟩
  · rw[Ad hc] at h;cases h
theorem Ot{r' r:RT}{l:List r'.D}{m:List r.D}(h:Jd l=some m):r'=r∧l.map (RT.enc r')=m.map (RT.enc r):=by
 unfold Jd at h;split at h
 · rename_i hb;have hr:=RT.beq_eq hb;subst hr;simp only[Ai] at h;subst h;exact⟨rfl,rfl⟩
 · cases h
theorem Xk:∀ {t:CT} {v:DV} {x:t.D},t.of v=some x→v.enc=CT.enc t x
 | .int k,.int k' n,x,h=>by
   have h':(if k=k' then some n else none)=some x:=h
   by_cases hk:k=k'
   · subst hk
     rw[Ab rfl] at h'
     have:n=x:=BZ h'
     rw[← this];rfl
   · rw[Ad hk] at h';cases h'
 | .bool,.bool b,x,h=>by
   have:b.b=x:=BZ h
   rw[← this];rfl
 | .str,.str s,x,h=>by
   have:s=x:=BZ h
   rw[← this];rfl
 | .ifc,.ifc b,x,h=>by
   have:b=x:=BZ h
   rw[← this];rfl
 | .sl r,.nil .own,x,h=>by
   have:([]:List r.D)=x:=BZ h
   rw[← this];rfl
 | .sl r,.sl .own r' l,x,h=>by
   show PV.sl .own _=PV.sl .own _
   rw[(Ot (r:=r) h).2]
theorem KF:∀ {r:RT} {vs:List DV} {x:r.D},r.of vs=some x→DV.encL vs=RT.enc r x
 |.one t,[v],x,h=>by simp only[DV.encL,RT.enc,Xk (t:=t) h]
 | .cons t r,v::vs,x,h=>by
   have h':(match t.of v,r.of vs with|some x,some y=>some (x,y)|_,_=>none)=some x:=h
   clear h
   cases h1:t.of v with
   |none=>rw[h1] at h';cases h'
   | some a=>
     cases h2:r.of vs with
     |none=>rw[h1,h2] at h';cases h'
     | some b=>
       rw[h1,h2] at h'
       have:(a,b)=x:=BZ h'
       rw[← this]
       simp only[DV.encL,RT.enc,Xk h1,KF h2]
theorem WS:∀ (t:CT) (x:t.D),(CT.dv .own t x).enc=CT.enc t x
 |.int _,_|.bool,_|.str,_|.ifc,_|.sl _,_=>rfl
theorem O6:∀ (r:RT) (x:r.D),DV.encL (r.dv .own x)=RT.enc r x
 |.one t,x=>by simp only[RT.dv,DV.encL,RT.enc,WS t x]
 |.cons t r,x=>by simp only[RT.dv,DV.encL,RT.enc,WS t x.1,O6 r x.2]
theorem LH(r:RT):∀ (l:List r.D) (j:Nat) (y:r.D),AG (l.map (RT.enc r)) j (RT.enc r y)=(l.set j y).map (RT.enc r)
 |[],_,_=>rfl
 |_::_,0,_=>rfl
 |_::l,j+1,y=>by simp only[Bx,AG,List.set_cons_succ,LH r l j y]
theorem eD(v:DV)(p:List Nat)(h:v.fcell p≠.any):v.enc.fcell p=(v.fcell p).enc:=by
 cases v with
 | agg cs=>
   match p with
   |[]=>exact absurd rfl h
   |[c]=>exact(J9 cs c).symm
   |_::_::_=>exact absurd rfl h
 | tup vs=>
   match p with
   |[]=>exact absurd rfl h
   |[_]=>exact absurd rfl h
   | [i,c]=>
     show Aa (Aa (DV.encL vs) i).cells c=(Et (Et vs i).cells c).enc;rw[← J9,GN,← J9]
   |_::_::_::_=>exact absurd rfl h
 |any=>match p with|[]=>exact absurd rfl h|[0]=>exact absurd rfl h|[_+1]=>exact absurd rfl h|0::_::_=>exact absurd rfl h|(_+1)::_::_=>exact absurd rfl h
 |undef=>match p with|[]=>exact absurd rfl h|[0]=>rfl|[_+1]=>exact absurd rfl h|0::_::_=>exact absurd rfl h|(_+1)::_::_=>exact absurd rfl h
 |bool _=>match p with|[]=>exact absurd rfl h|[0]=>rfl|[_+1]=>exact absurd rfl h|0::_::_=>exact absurd rfl h|(_+1)::_::_=>exact absurd rfl h
 |int _ _=>match p with|[]=>exact absurd rfl h|[0]=>rfl|[_+1]=>exact absurd rfl h|0::_::_=>exact absurd rfl h|(_+1)::_::_=>exact absurd rfl h
 |str _=>match p with|[]=>exact absurd rfl h|[0]=>rfl|[_+1]=>exact absurd rfl h|0::_::_=>exact absurd rfl h|(_+1)::_::_=>exact absurd rfl h
 |ifc _=>match p with|[]=>exact absurd rfl h|[0]=>rfl|[_+1]=>exact absurd rfl h|0::_::_=>exact absurd rfl h|(_+1)::_::_=>exact absurd rfl h
 |nil _=>match p with|[]=>exact absurd rfl h|[0]=>rfl|[_+1]=>exact absurd rfl h|0::_::_=>exact absurd rfl h|(_+1)::_::_=>exact absurd rfl h
 |sl _ _ _=>match p with|[]=>exact absurd rfl h|[0]=>rfl|[_+1]=>exact absurd rfl h|0::_::_=>exact absurd rfl h|(_+1)::_::_=>exact absurd rfl h
 |ep _ _ _ _ _=>match p with|[]=>exact absurd rfl h|[0]=>rfl|[_+1]=>exact absurd rfl h|0::_::_=>exact absurd rfl h|(_+1)::_::_=>exact absurd rfl h
 |box _ _=>match p with|[]=>exact absurd rfl h|[0]=>rfl|[_+1]=>exact absurd rfl h|0::_::_=>exact absurd rfl h|(_+1)::_::_=>exact absurd rfl h
 |ptr _ _=>match p with|[]=>exact absurd rfl h|[0]=>rfl|[_+1]=>exact absurd rfl h|0::_::_=>exact absurd rfl h|(_+1)::_::_=>exact absurd rfl h
theorem FT{d:DS}{s:PS}(hs:ES d s)(hd:Hd)(p:List Nat)(h:Bt d hd p≠.any):BT s hd p=(Bt d hd p).enc:=by
 cases hd with
 | s t=>
   rcases hs.sl.get t with hg|hg
   · simp only[Bt,hg] at h;refine absurd ?_ h
     match p with
     |[]=>rfl
     |[0]=>rfl
     |[_+1]=>rfl
     |0::_::_=>rfl
     |(_+1)::_::_=>rfl
   · simp only[Bt,BT,hg] at h ⊢;exact eD _ p h
 | b i=>
   match p with
   |[]=>exact absurd rfl h
   |_::_::_=>exact absurd rfl h
   | [c]=>
     rcases hs.bx.get i with hb|hb
     · simp only[Bt,hb,AQ] at h;exact absurd rfl h
     · exact(hb.get c).of h
 | h i=>
   match p with
   |[]=>exact absurd rfl h
   |_::_::_=>exact absurd rfl h
   | [c]=>
     rcases hs.hp.get i with hb|hb
     · simp only[Bt,hb,AQ] at h;exact absurd rfl h
     · exact(hb.get c).of h
 |x i=>exact absurd rfl h
theorem fV(v:DV)(p:List Nat)(w:DV):v.enc.setc p w.enc=(v.setc p w).enc:=by
 cases v with
 | agg cs=>
   match p with
   |[]=>rfl
   |[c]=>exact congrArg PV.agg (Oh cs c w).symm
   |_::_::_=>rfl
 | tup vs=>
   match p with
   |[]=>rfl
   |[0]=>rfl
   |[_+1]=>rfl
   |0::_::_=>rfl
   |(_+1)::_::_=>rfl
 |any=>match p with|[]=>rfl|[0]=>rfl|[_+1]=>rfl|0::_::_=>rfl|(_+1)::_::_=>rfl
 |undef=>match p with|[]=>rfl|[0]=>rfl|[_+1]=>rfl|0::_::_=>rfl|(_+1)::_::_=>rfl
 |bool _=>match p with|[]=>rfl|[0]=>rfl|[_+1]=>rfl|0::_::_=>rfl|(_+1)::_::_=>rfl
 |int _ _=>match p with|[]=>rfl|[0]=>rfl|[_+1]=>rfl|0::_::_=>rfl|(_+1)::_::_=>rfl
 |str _=>match p with|[]=>rfl|[0]=>rfl|[_+1]=>rfl|0::_::_=>rfl|(_+1)::_::_=>rfl
 |ifc _=>match p with|[]=>rfl|[0]=>rfl|[_+1]=>rfl|0::_::_=>rfl|(_+1)::_::_=>rfl
 |nil _=>match p with|[]=>rfl|[0]=>rfl|[_+1]=>rfl|0::_::_=>rfl|(_+1)::_::_=>rfl
 |sl _ _ _=>match p with|[]=>rfl|[0]=>rfl|[_+1]=>rfl|0::_::_=>rfl|(_+1)::_::_=>rfl
 |ep _ _ _ _ _=>match p with|[]=>rfl|[0]=>rfl|[_+1]=>rfl|0::_::_=>rfl|(_+1)::_::_=>rfl
 |box _ _=>match p with|[]=>rfl|[0]=>rfl|[_+1]=>rfl|0::_::_=>rfl|(_+1)::_::_=>rfl
 |ptr _ _=>match p with|[]=>rfl|[0]=>rfl|[_+1]=>rfl|0::_::_=>rfl|(_+1)::_::_=>rfl
theorem EBx.put{a:List DC}{b:List PV}{v:DV}{p:PV}(n:Nat)(h:EBx a b)(hv:EV v p):EBx (Ce a n v) (Bb b n p):=by
 rcases h with rfl|h
 · exact .inl rfl
 · exact .inr (h.put n hv)
theorem Iv{d:DS}{s:PS}(hs:ES d s)(hd:Hd)(p:List Nat)(w:DV)(h:Bt d hd p≠.any):ES (Eo d w hd p) (setK s w.enc hd p):=by
 cases hd with
 | s t=>
   refine⟨(hs.sl.put t (.inr ?_)).clr _,hs.bx,hs.hp⟩;rcases hs.sl.get t with hg|hg
   · simp only[Bt,hg] at h;refine absurd ?_ h
     match p with
     |[]=>rfl
     |[0]=>rfl
     |[_+1]=>rfl
     |0::_::_=>rfl
     |(_+1)::_::_=>rfl
   · rw[hg];exact fV _ p w
 | b i=>
   match p with
   |[]=>exact absurd rfl h
   |_::_::_=>exact absurd rfl h
   |[c]=>exact⟨hs.sl.clr _,hs.bx.put i ((hs.bx.get i).put c (.inr rfl)),hs.hp⟩
 | h i=>
   match p with
   |[]=>exact absurd rfl h
   |_::_::_=>exact absurd rfl h
   |[c]=>exact⟨hs.sl.clr _,hs.bx,hs.hp.put i ((hs.hp.get i).put c (.inr rfl))⟩
 |x i=>exact absurd rfl h
theorem aV{n:Nat}{a x:Opnd}{d d':DS}{s:PS}{g:PX}{v:DV}(hs:ES d s)(h:LY n a x d=some (g,v,d'))(hg:g.den):∃ s',LI n a x s=some (v.enc,s')∧ES d' s':=by
 unfold LY at h;generalize hm:AE x d=w at h;obtain⟨w,d1⟩:=w;simp only at h
 have hw:Ca w.cells=true→ES d1 (mvOut x s).2∧(mvOut x s).1=w.enc:=fun hcl=>by
  obtain⟨m1,m2⟩:=C5 x hs (by rw[hm];exact LF w hcl);rw[hm] at m1 m2;exact⟨m2,m1⟩
 split at h
 · rename_i i o ha;by_cases hc:(Nat.blt i d1.hp.length&&w.cells.length == n&&Nat.ble (o+n) (A7 d1.hp i).length&&Ca w.cells)=true
   · rw[Ab hc] at h;simp only[Ah,AA] at hc;obtain⟨⟨⟨hi,rfl⟩,hl⟩,hcl⟩:=hc;have hi:=BS hi;have hl:=BS hl;obtain⟨m2,m1⟩:=hw hcl;have ha':=a.dev_ev m2;rw[ha] at ha';simp only[Ai,Ak] at h;obtain⟨rfl,rfl,rfl⟩:=h;have hbx:=m2.hp.get i
     have hel:o+w.cells.length≤(Aj (mvOut x s).2.hp i).length:=by
      rcases hbx with he|he
      · rw[he] at hl;simp only[AV] at hl;omega
      · rw[← he.len];exact hl
     simp only[LI,ha'.of (by simp:DV.ptr i o≠.any),DV.enc,m1,GN,DN,GW];rw[Ab ⟨by rw[← m2.hp.len];exact hi,trivial,hel,Iz _ hcl⟩];refine⟨_,rfl,m2.sl.clr2 fun hx=>?_,m2.bx,m2.hp.put i (hbx.splice (EL.news w.cells) hl)⟩;simp only[El,Jh] at hx ⊢;rw[(hbx.segm hl hx.1.1).2,J1];exact⟨hx.1.2,hx.2⟩
   · rw[Ad hc] at h;cases h
 · rename_i hd p r0 l0 j o ha
   cases hk:Bt d1 hd [p]<;>rw[hk] at h<;>try (cases h;done)
   rename_i q r l
   cases q<;>try (cases h;done)
   simp only at h;by_cases hc:(w.cells.length == n&&Nat.ble (o+n) r.w&&Ca w.cells)=true
   · rw[Ab hc] at h;simp only[Ah,AA] at hc;obtain⟨⟨rfl,hl⟩,hcl⟩:=hc;have hl:=BS hl
     cases hof:r.of (FY (r.dv .own (lGet l j r.dflt)) o w.cells) with
     |none=>rw[hof] at h;cases h
     | some y=>
       rw[hof] at h;simp only[Ai,Ak] at h;obtain⟨rfl,rfl,rfl⟩:=h;obtain⟨m2,m1⟩:=hw hcl;have ha':=a.dev_ev m2;rw[ha] at ha'
       have hne:Bt d1 hd [p]≠.any:=by rw[hk];simp
       have hj:j<l.length:=hg;have e1:=FT m2 hd [p] hne;rw[hk] at e1;have e2:=KF hof;rw[Lk,O6,Ko,← EJ r l j hj] at e2;have e3:=Iv m2 hd [p] (.sl .own r (lSet l j y)) hne;simp only[LI,ha'.of (by simp:DV.ep (.bor hd [p] true) r0 l0 j o≠.any),DV.enc,m1,GN,DN,e1,Az];rw[Ab ⟨hj,trivial,by rw[EJ r l j hj,HJ];exact hl,Iz _ hcl⟩,e2,LH];simp only[DV.enc,Mc] at e3;exact⟨_,rfl,by rw[Mc];exact e3⟩
   · rw[Ad hc] at h;cases h
 · cases h
theorem bT{m:Bool}{n:Option Nat}{a:DV}{p:PV}{d d':DS}{s:PS}{r:C3}{g:PX}{v:DV}(hs:ES d s)(ha:EV a p)(h:HE m n a d=some r)(hr:r=some (g,v,d'))(hg:g.den):HR m n p s=some (some v.enc)∧d'=d:=by
 unfold HE at h;split at h
 · rename_i hd c r1 l j;simp only[Ai] at h;rw[hr] at h;split at h
   · rename_i r2 l2 hk;simp only[Ai,Ak] at h;obtain⟨rfl,rfl,rfl⟩:=h;obtain⟨g1,g2⟩:=hg
     have hne:Bt d hd [c]≠.any:=by rw[hk];simp
     have e1:=FT hs hd [c] hne;rw[hk] at e1;have e2:As (List.map (RT.enc (.one (.sl r1))) l) j=[PV.sl .own (List.map (RT.enc r1) (List.getD (α:=List r1.D) l j []))]:=EJ (.one (.sl r1)) l j g1;have e3:As (List.map (RT.enc (.one (.sl r2))) l2) j=[PV.sl .own (List.map (RT.enc r2) (List.getD (α:=List r2.D) l2 j []))]:=EJ (.one (.sl r2)) l2 j g2;refine⟨?_,rfl⟩;rw[ha.of (by simp)];simp only[DV.enc,HR,e1,Az];rw[e2,Ab g2,e3];rw[show lGet (α:=List r2.D) l2 j []=List.getD (α:=List r2.D) l2 j [] from Ko l2 j []]
   · cases h
 · cases h
theorem dh{m:Bool}{n:Option Nat}{a:DV}{p:PV}{d:DS}{s:PS}(ha:EV a p)(hne:a≠.any)(h:HE m n a d=none):HR m n p s=none:=by
 unfold HR;split
 · rename_i hd c es j;have hp:=ha.of hne;cases a<;>simp only[DV.enc,PV.ep.injEq,reduceCtorEq] at hp;rename_i q r l j' o;obtain⟨rfl,rfl,rfl,rfl⟩:=hp;split
   · rename_i x he;rcases A9 j l.length with hj|hj
     · rw[EJ r l j hj] at he
       cases r with
       | one t=>
         cases t with
         |sl r1=>simp[HE] at h
         |_=>simp only[RT.enc,CT.enc,G2,reduceCtorEq,false_and] at he
       |cons t r=>cases r<;>simp[RT.enc] at he
     · have hz:As (l.map (RT.enc r)) j=[]:=by rw[I2,A0 (by simpa using hj)];rfl
       rw[hz] at he;cases he
   · rfl
 · rfl
theorem fD{a:DV}{p:PV}(ha:EV a p)(hne:a≠.any):p.nest=a.nest:=by
 rw[ha.of hne]
 cases a<;>try rfl
 rename_i q r l j o
 cases q<;>try rfl
 rename_i hd pt tp
 match pt,tp with
 |[],_=>cases tp<;>rfl
 |[_],_=>cases tp<;>rfl
 |[_,_],true=>rfl
 |[_,_],false=>rfl
 |_::_::_::_,_=>cases tp<;>rfl
theorem Uy:∀ {vs:List DV},I5 vs=true→Cc (DV.encL vs)=true
 |[],_=>rfl
 | v::r,h=>by
   simp only[I5,Ah] at h
   simp only[DV.encL,Cc,Ah]
   refine⟨?_,Uy h.2⟩
   cases v<;>first|rfl|cases h.1
theorem eC{v:DV}(h:I5 v.cells=true):v≠.any:=by
 rintro rfl;simp[DV.cells,I5,DV.nflat] at h
theorem aR{n:Nat}{hd:Hd}{p k j o:Nat}{w:DV}{pw:PV}{d d':DS}{s:PS}{g:PX}{v:DV}(hs:ES d s)(hw:EV w pw)(h:LN n hd p k j o w d=some (g,v,d'))(hg:g.den):∃ s',LG n hd p k j o pw s=some (v.enc,s')∧ES d' s':=by
 unfold LN at h;split at h
 · rename_i r l hk;by_cases hc:(w.cells.length == n&&Nat.ble (o+n) r.w&&I5 w.cells)=true
   · rw[Ab hc] at h;simp only[Ah,AA] at hc;obtain⟨⟨rfl,hl⟩,hf⟩:=hc;have hl:=BS hl
     cases hof:r.of (FY (r.dv .own (lGet (lGet (α:=List r.D) l k []) j r.dflt)) o w.cells) with
     |none=>rw[hof] at h;cases h
     | some y=>
       rw[hof] at h;simp only[Ai,Ak] at h;obtain⟨rfl,rfl,rfl⟩:=h;obtain⟨g1,g2⟩:=hg
       have hne:Bt d hd [p]≠.any:=by rw[hk];simp
       have e1:=FT hs hd [p] hne;rw[hk] at e1;have hL:lGet (α:=List r.D) l k []=List.getD (α:=List r.D) l k []:=Ko (α:=List r.D) l k [];rw[hL] at g2 hof;have g2':j<List.length (α:=r.D) (List.getD (α:=List r.D) l k []):=g2;have e4:=EJ r (List.getD (α:=List r.D) l k []) j g2';have e5:=KF hof;rw[Lk,O6,Ko] at e5;have e6:AG (List.map (RT.enc r) (List.getD (α:=List r.D) l k [])) j (RT.enc r y)=List.map (RT.enc r) (List.set (α:=r.D) (List.getD (α:=List r.D) l k []) j y):=LH r _ j y;have e7:AG (List.map (RT.enc (.one (.sl r))) l) k [PV.sl .own (List.map (RT.enc r) (List.set (α:=r.D) (List.getD (α:=List r.D) l k []) j y))]=List.map (RT.enc (.one (.sl r))) (List.set (α:=List r.D) l k (List.set (α:=r.D) (List.getD (α:=List r.D) l k []) j y)):=LH (.one (.sl r)) l k (List.set (α:=r.D) (List.getD (α:=List r.D) l k []) j y);have e3:=Iv hs hd [p] (.sl .own (.one (.sl r)) (lSet (α:=List r.D) l k (lSet (lGet (α:=List r.D) l k []) j y))) hne
       have hS:lSet (α:=List r.D) l k (lSet (lGet (α:=List r.D) l k []) j y)=List.set (α:=List r.D) l k (List.set (α:=r.D) (List.getD (α:=List r.D) l k []) j y):=by
        rw[hL];exact(Mc (α:=List r.D) l k _).trans (congrArg (fun z=>List.set (α:=List r.D) l k z) (Mc (α:=r.D) _ j y))
       rw[hw.of (eC hf)];have e1':BT s hd [p]= .sl .own (List.map (RT.enc (.one (.sl r))) l):=e1;have e2':As (List.map (RT.enc (.one (.sl r))) l) k=[.sl .own (List.map (RT.enc r) (List.getD (α:=List r.D) l k []))]:=EJ (.one (.sl r)) l k g1;have e5':An (RT.enc r (List.getD (α:=r.D) (List.getD (α:=List r.D) l k []) j r.dflt)) o (DV.encL w.cells)=RT.enc r y:=e5;unfold LG;rw[e1'];simp only[Az];rw[Ab g1,e2'];simp only[Az,GN,DN];rw[Ab ⟨g2',trivial,by rw[e4,HJ];exact hl,Uy hf⟩,e4,e5',e6,e7];refine⟨_,rfl,?_⟩;rw[hS] at e3 ⊢;exact e3
   · rw[Ad hc] at h;cases h
 · cases h
theorem gC(hd:Hd)(v:DV)(h:v≠.any):(SK hd v).enc=FB hd v.enc:=by
 cases v<;>first|rfl|exact absurd rfl h|skip
 case nil q=>cases q<;>rfl
 case sl q r l=>cases q<;>rfl
 case agg cs=>show PV.agg _=PV.agg _;rw[LL]
 case tup vs=>
  simp only[SK,DV.enc,FB,J1];split<;>rfl
theorem bW{d:DS}{s:PS}(x:Opnd)(h:ES d s)(hk:(G4 x d).1.ok=true):(HU x s).1=(G4 x d).1.enc∧ES (G4 x d).2 (HU x s).2:=by
 cases x with
 | c v=>
   refine⟨?_,h⟩;refine(Ol v fun he=>?_).symm;simp only[G4,he,DV.ok,Aw] at hk
 | t n=>
   simp only[G4] at hk
   have hn:AQ d.sl n≠.any:=by intro e;rw[e] at hk;cases hk
   simp only[G4,HU];rw[(h.sl.get n).of hn,gC _ _ hn];exact⟨rfl,h⟩
theorem FQ:∀ (l:List V),EH l=true→l.all V.flat=true∧DV.encL (Ey l)=l.map AW∧Ca (Ey l)=true
 |[],_=>⟨rfl,rfl,rfl⟩
 | v::r,h=>by
   simp only[EH,Ah] at h;obtain⟨h1,h2,h3⟩:=FQ r h.2
   have hv:(Gf v).cell=true∧(Gf v).enc=AW v:=by cases v<;>first|exact⟨rfl,rfl⟩|(have:=h.1;cases this)
   refine⟨by simp only[DW,h.1,h1,BM],?_,?_⟩
   · simp only[Ey,DV.encL,Bx,h2,hv.2]
   · simp only[Ey,Ca,hv.1,h3,BM]
theorem Qc:∀ (ps:List (Nat×Nat×Opnd)) {cs cs':List DV} {d d':DS} {s:PS},ES d s→Ga cs ps d=some (cs',d')→∃ s',CJ (DV.encL cs) ps s=some (DV.encL cs',s')∧ES d' s'
 | [],cs,cs',d,d',s,hs,h=>by
   simp only[Ga,Ai,Ak] at h
   obtain⟨rfl,rfl⟩:=h
   exact⟨s,rfl,hs⟩
 | (off,size,x)::r,cs,cs',d,d',s,hs,h=>by
   unfold Ga at h
   by_cases hc:((AE x d).1.cells.length == size&&Nat.ble (off+size) cs.length&&Ca (AE x d).1.cells)=true
   · rw[Ab hc] at h
     simp only[Ah,AA] at hc
     obtain⟨⟨h1,h2⟩,h3⟩:=hc
     obtain⟨m1,m2⟩:=C5 x hs (LF _ h3)
     obtain⟨s',e1,e2⟩:=Qc r m2 h
     refine⟨s',?_,e2⟩
     unfold CJ
     rw[m1,GN,DN,DN,Ab ⟨h1,BS h2,Iz _ h3⟩,← Lk]
     exact e1
   · rw[Ad hc] at h;cases h
theorem U9:∀ (n:Nat) (l:List DV),DV.encL (l.take n)=(DV.encL l).take n
 |0,_=>rfl
 |_+1,[]=>rfl
 |n+1,_::r=>by simp only[Sq,DV.encL,U9 n r]
theorem UY:∀ (n:Nat) (l:List DV),DV.encL (l.drop n)=(DV.encL l).drop n
 |0,_=>rfl
 |_+1,[]=>rfl
 |n+1,_::r=>by simp only[List.drop_succ_cons,DV.encL,UY n r]
theorem TO(r:RT)(w:Nat):∀ (n:Nat) (cs:List DV) (l:List r.D),Kd r w n cs=some l→CI w n (DV.encL cs)=l.map (RT.enc r)
 | 0,cs,l,h=>by
   simp only[Kd,Ai] at h;subst h;rfl
 | n + 1,cs,l,h=>by
   unfold Kd at h
   cases h1:r.of (cs.take w) with
   |none=>rw[h1] at h;cases h
   | some x=>
     cases h2:Kd r w n (cs.drop w) with
     |none=>rw[h1,h2] at h;cases h
     | some y=>
       rw[h1,h2] at h
       have:=BZ h
       subst this
       simp only[CI,Bx,← U9,← UY,KF h1,TO r w n _ y h2]
def DSrc.es:DSrc→List (List PV)
 |.nil=>[]
 |.sl r l=>l.map (RT.enc r)
theorem Mn{r:RT}{x:DSrc}{l:List r.D}(h:x.to r=some l):x.es=l.map (RT.enc r):=by
 cases x with
 |nil=>have:=BZ h;subst this;rfl
 |sl r' l'=>exact(Ot h).2
theorem Wm:∀ (t:CT) (x:t.D),t.flat=true→(CT.enc t x).flatc=true
 |.int _,_,_|.bool,_,_|.str,_,_|.ifc,_,_=>rfl
theorem Wb:∀ (r:RT) (x:r.D),r.flat=true→Cc (RT.enc r x)=true
 |.one t,x,h=>by simp only[RT.enc,Cc,Wm t x h,BM]
 | .cons t r,x,h=>by
   simp only[RT.flat,Ah] at h
   simp only[RT.enc,Cc,Wm t x.1 h.1,Wb r x.2 h.2,BM]
theorem Vf(r:RT)(h:r.flat=true):∀ (l:List r.D),Gd (l.map (RT.enc r))=true
 |[]=>rfl
 |x::l=>by simp only[Bx,Gd,Wb r x h,Vf r h l,BM]
theorem gS{w:Nat}{x:DSrc}(h:x.w w=true):BE w x.es=true:=by
 cases x with
 |nil=>rfl
 | sl r l=>
   have:r.w=w:=by simpa [DSrc.w] using h
   subst this;exact Ds r l
theorem mv_ok{d:DS}{x:Opnd}(v:DV)(hx:x.dev d.sl=v)(ho:v.own=true)(hb:∀ hd,v.bor hd=false)(hk:v.ok=true):(AE x d).1=v:=by
 cases x with
 |c c=>exact hx
 | t n=>
   have hx':AQ d.sl n=v:=hx;simp only[AE,MP,hx',ho,hb,AB,Aw,AK]
theorem Qs{w:Nat}{y:Opnd}{d d':DS}{s:PS}{new:DSrc}(hs:ES d s)(h:Gh w y d=some (new,d')):∃ s',Db w y s=some (new.es,s')∧ES d' s':=by
 have hy:=y.dev_ev hs;unfold Gh at h;unfold Db
 cases hv:y.dev d.sl with
 | str t=>
   rw[hv] at h hy;simp only at h;by_cases hw:(w == 1)=true
   · rw[Ab hw] at h;simp only[Ai,Ak] at h;obtain⟨rfl,rfl⟩:=h;rw[hy.of (by simp)];simp only[DV.enc];rw[Ab (by simpa using hw)];refine⟨s,?_,hs⟩
     have:(DSrc.sl (.one (.int .u8)) (sRow t)).es=t.map fun b=>[PV.fl (.int .u8 b.toNat)]:=by
      unfold DSrc.es;rw[WE];clear hy hv
      induction t with
      |nil=>rfl
      |cons b t ih=>exact congrArg (List.cons _) ih
     rw[this]
   · rw[Ad hw] at h;cases h
 | nil q=>
   rw[hv] at h hy;have hp:=hy.of (by simp)
   cases q with
   | own=>
     simp only[Ai,Ak] at h;obtain⟨rfl,rfl⟩:=h;have hk:=mv_ok (.nil .own) hv rfl (fun _=>rfl) rfl;obtain⟨m1,m2⟩:=C5 y hs (by rw[hk];rfl);rw[hp];exact⟨_,rfl,m2⟩
   | frz=>
     simp only[Ai,Ak] at h;obtain⟨rfl,rfl⟩:=h;rw[hp];exact⟨s,rfl,hs⟩
   | ownw w'=>
     simp only[Ai,Ak] at h;obtain⟨rfl,rfl⟩:=h;rw[hp];exact⟨s,rfl,hs⟩
   | bor a b c=>
     simp only[Ai,Ak] at h;obtain⟨rfl,rfl⟩:=h;rw[hp];exact⟨s,rfl,hs⟩
   | pre a b=>
     simp only[Ai,Ak] at h;obtain⟨rfl,rfl⟩:=h;rw[hp];exact⟨s,rfl,hs⟩
 | sl q r l=>
   rw[hv] at h hy;have hp:=hy.of (by simp)
   have key:(if (r.w == w&&r.flat)=true then some (DSrc.sl r l,d) else none)=some (new,d')→BE w (l.map (RT.enc r))=true∧Gd (l.map (RT.enc r))=true∧new.es=l.map (RT.enc r)∧d'=d:=fun h=>by
    by_cases hw:(r.w == w&&r.flat)=true
    · rw[Ab hw] at h;simp only[Ah,AA] at hw;simp only[Ai,Ak] at h;obtain⟨rfl,rfl⟩:=h;exact⟨hw.1▸Ds r l,Vf r hw.2 l,rfl,rfl⟩
    · rw[Ad hw] at h;cases h
   rw[hp]
   cases q with
   | own=>
     simp only at h;by_cases hw:(r.w == w)=true
     · rw[Ab hw] at h;simp only[Ai,Ak] at h;obtain⟨rfl,rfl⟩:=h;have hk:=mv_ok (.sl .own r l) hv rfl (fun _=>rfl) rfl;obtain⟨m1,m2⟩:=C5 y hs (by rw[hk];rfl)
       have hw':r.w=w:=by simpa using hw
       simp only[DV.enc];rw[Ab (hw'▸Ds r l)];exact⟨_,rfl,m2⟩
     · rw[Ad hw] at h;cases h
   |ownw w'=>cases h
   |frz=>obtain⟨k1,k2,k3,rfl⟩:=key h;simp only[DV.enc];rw[Ab ⟨k1,k2⟩,k3];exact⟨s,rfl,hs⟩
   |bor a b c=>obtain⟨k1,k2,k3,rfl⟩:=key h;simp only[DV.enc];rw[Ab ⟨k1,k2⟩,k3];exact⟨s,rfl,hs⟩
   |pre a b=>obtain⟨k1,k2,k3,rfl⟩:=key h;simp only[DV.enc];rw[Ab ⟨k1,k2⟩,k3];exact⟨s,rfl,hs⟩
 |_=>rw[hv] at h;cases h
theorem I6{x:DSrc}{r:RT}{l:List r.D}(h:x.to r=some l):x.es.length=l.length:=by rw[Mn h,Az]
theorem UD{w:Nat}{x:Opnd}{new:DSrc}{d d':DS}{s:PS}{g:PX}{v:DV}(hs:ES d s)(h:KN w x new d=some (g,v,d'))(hg:g.den):∃ s',Fx w x new.es s=some (v.enc,s')∧ES d' s':=by
 have hx:=x.dev_ev hs;unfold KN at h;by_cases h0:(Nat.blt 0 w&&new.w w)=true
 · simp only [h0,OL,Aw,AK] at h;simp only[Ah] at h0;have hw0:0<w:=BS h0.1;unfold Fx
   cases hv:x.dev d.sl with
   | nil q =>
     rw[hv] at h hx;rw[hx.of (by simp)]
     cases q with
     | own=>
       have hk:=mv_ok (.nil .own) hv rfl (fun _=>rfl) rfl;obtain⟨m1,m2⟩:=C5 x hs (by rw[hk];rfl)
       cases new with
       | nil=>
         simp only[Ai,Ak] at h;obtain⟨rfl,rfl,rfl⟩:=h;simp only[DV.enc,DSrc.es,AV,Dx,HP,Mi];rw[Ab ⟨hw0,rfl,Fl _⟩];exact⟨_,rfl,m2⟩
       | sl r l=>
         simp only[Ai,Ak] at h;obtain⟨rfl,rfl,rfl⟩:=h;simp only[DV.enc,DSrc.es,AV,Bc,Az,BL];rw[Ab ⟨hw0,rfl,hg⟩];exact⟨_,rfl,m2⟩
     | bor hd p t=>
       cases t with
       | false=>cases p with
         |nil=>cases h
         |cons c p=>cases p<;>cases h
       | true=>
         match p,h with
         | [c],h=>
           simp only at h ⊢
           cases hk:Bt d hd [c]<;>rw[hk] at h<;>try (cases h;done)
           rename_i q
           cases q<;>try (cases h;done)
           have hne:Bt d hd [c]≠.any:=by rw[hk];simp
           have e1:=FT hs hd [c] hne;rw[hk] at e1;have e3:=Iv hs hd [c] .undef hne
           cases new with
           | nil=>
             simp only[Ai,Ak] at h;obtain⟨rfl,rfl,rfl⟩:=h;simp only[DV.enc,e1,DSrc.es,AV,Dx,HP,Mi];rw[Ab ⟨hw0,rfl,trivial,Fl _⟩];exact⟨_,rfl,e3⟩
           | sl r l=>
             simp only[Ai,Ak] at h;obtain⟨rfl,rfl,rfl⟩:=h;simp only[DV.enc,e1,DSrc.es,AV,Bc,Az,BL];rw[Ab ⟨hw0,rfl,trivial,hg⟩];exact⟨_,rfl,e3⟩
         |[],h=>cases h
         |_::_::_,h=>cases h
     |_=>cases h
   | sl q r l=>
     rw[hv] at h hx;rw[hx.of (by simp)]
     cases q with
     | own =>
       simp only at h;by_cases hw:(r.w == w)=true
       · rw[Ab hw] at h
         have hw':r.w=w:=by simpa using hw
         cases ht:new.to r with
         |none=>rw[ht] at h;cases h
         | some n=>
           rw[ht] at h;simp only[Ai,Ak] at h;obtain⟨rfl,rfl,rfl⟩:=h;have hk:=mv_ok (.sl .own r l) hv rfl (fun _=>rfl) rfl;obtain⟨m1,m2⟩:=C5 x hs (by rw[hk];rfl);simp only[DV.enc,Az,I6 ht];rw[Ab ⟨hw0,hw'▸Ds r l,hg⟩,Mn ht];refine⟨_,?_,m2⟩;simp only[I0,DU]
       · rw[Ad hw] at h;cases h
     | bor hd p t=>
       cases t with
       | false=>cases p with
         |nil=>cases h
         |cons c p=>cases p<;>cases h
       | true=>
         match p,h with
         | [c],h=>
           simp only at h ⊢
           cases hk:Bt d hd [c]<;>rw[hk] at h<;>try (cases h;done)
           rename_i q rh lh
           cases q<;>try (cases h;done)
           simp only at h;by_cases hw:(rh.w == w)=true
           · rw[Ab hw] at h
             have hw':rh.w=w:=by simpa using hw
             cases ht:new.to rh with
             |none=>rw[ht] at h;cases h
             | some n=>
               rw[ht] at h;simp only[Ai,Ak] at h;obtain⟨rfl,rfl,rfl⟩:=h
               have hne:Bt d hd [c]≠.any:=by rw[hk];simp
               have e1:=FT hs hd [c] hne;rw[hk] at e1;have e3:=Iv hs hd [c] .undef hne;simp only[DV.enc,e1,Az,I6 ht];rw[Ab ⟨hw0,hw'▸Ds rh lh,hg.1,hg.2⟩,Mn ht];refine⟨_,?_,e3⟩;simp only[I0,DU,DV.enc]
           · rw[Ad hw] at h;cases h
         |[],h=>cases h
         |_::_::_,h=>cases h
     | pre hd p=>
      match p,h with
      | [c],h=>
        simp only at h ⊢
        cases hk:Bt d hd [c]<;>rw[hk] at h<;>try (cases h;done)
        rename_i q rh lh
        cases q<;>try (cases h;done)
        simp only at h;by_cases hw:(rh.w == w)=true
        · rw[Ab hw] at h
          have hw':rh.w=w:=by simpa using hw
          cases ht:new.to rh with
          |none=>rw[ht] at h;cases h
          | some n=>
            rw[ht] at h;simp only[Ai,Ak] at h;obtain⟨rfl,rfl,rfl⟩:=h
            have hne:Bt d hd [c]≠.any:=by rw[hk];simp
            have e1:=FT hs hd [c] hne;rw[hk] at e1;have e3:=Iv hs hd [c] .undef hne;simp only[DV.enc,e1,Az,I6 ht];rw[Ab ⟨hw0,hw'▸Ds rh lh,hg.1,hg.2.1,hg.2.2.2⟩,Mn ht,Ad (Nat.ne_of_gt hg.2.2.1)];refine⟨_,?_,e3⟩;simp only[I0,Rr,MJ,DU,OX,DV.enc]
        · rw[Ad hw] at h;cases h
      |[],h=>cases h
      |_::_::_,h=>cases h
     |_=>cases h
   |_=>rw[hv] at h;cases h
 · simp only[h0] at h;cases h
theorem Vb{zs:List V}(h:EH zs=true):EL (news (Ey zs)) (zs.map AW):=by rw[← (FQ zs h).2.1];exact EL.news _
theorem EB.append{c:List DC}{p:List PV}:∀ {a:List (List DC)} {b:List (List PV)},EB a b→EBx c p→EB (a++[c]) (b++[p])
 |[],[],_,h=>⟨h,trivial⟩
 |_::_,_::_,h,h'=>⟨h.1,EB.append h.2 h'⟩
theorem aU(r:RT)(x:r.D)(n:Nat):(List.replicate n x).map (RT.enc r)=List.replicate n (RT.enc r x):=by simp
theorem T7{m:Bool}{o:AOp}{ty:Option RT}{d d':DS}{s:PS}{g:PX}{v:DV}(hs:ES d s)(h:A4 m o ty d=some (g,v,d'))(hg:g.den):∃ s',AX m o s=some (v.enc,s')∧ES d' s':=by
 have E:=fun x=>Opnd.dev_ev hs x
 have pure:(KC o (fun x=>x.dev d.sl)).map (fun r=>(r.1,r.2,d))=some (g,v,d')→∃ s',AX m o s=some (v.enc,s')∧ES d' s':=fun h=>by
  cases hp:KC o (fun x=>x.dev d.sl) with
  |none=>rw[hp] at h;cases h
  | some r=>
    obtain⟨g1,v1⟩:=r;rw[hp] at h;simp only[BB,Ai,Ak] at h;obtain⟨rfl,rfl,rfl⟩:=h;exact⟨s,b9 hs hp hg,hs⟩
 cases o<;>first|exact pure h|skip
 case mv x=>
  cases m with
  | false=>
    simp only[A4,Aw,AK] at h;by_cases hk:(AE x d).1.ok=true
    · rw[Ab hk] at h;simp only[Ai,Ak] at h;obtain⟨rfl,rfl,rfl⟩:=h;obtain⟨m1,m2⟩:=C5 x hs hk;exact⟨_,by simp only[AX,Aw,AK,← m1],m2⟩
    · rw[Ad hk] at h;cases h
  | true=>
    simp only[A4,AB] at h;by_cases hk:(G4 x d).1.ok=true
    · rw[Ab hk] at h;simp only[Ai,Ak] at h;obtain⟨rfl,rfl,rfl⟩:=h;obtain⟨m1,m2⟩:=bW x hs hk;exact⟨_,by simp only[AX,AB,← m1],m2⟩
    · rw[Ad hk] at h;cases h
 case loadB i n a=>exact TX hs (E a) h
 case loadH n a=>
  simp only[A4] at h
  cases hn:HE m n (a.dev d.sl) d with
  | none=>
    rw[hn] at h;obtain⟨s',h1,h2⟩:=T5 hs (E a) h hg;refine⟨s',?_,h2⟩
    have hne:a.dev d.sl≠.any:=by
     intro e;simp only[e,HF] at h;cases h
    simp only[AX,dh (s:=s) (E a) hne hn];exact h1
  | some r=>
    rw[hn] at h;obtain⟨h1,rfl⟩:=bT hs (E a) hn h hg;exact⟨s,by simp only[AX,h1];rfl,hs⟩
 case storeB i n a x=>exact aP hs h
 case storeH n a x=>
  simp only[A4] at h;split at h
  · rename_i hok;have hn:=fD (E a) (fun e=>by rw[e] at hok;cases hok);split at h
    · rename_i hd p k j o hm;obtain⟨s',h1,h2⟩:=aR hs (E x) h hg;exact⟨s',by simp only[AX,hn,hm];exact h1,h2⟩
    · rename_i hm;obtain⟨s',h1,h2⟩:=aV hs h hg;exact⟨s',by simp only[AX,hn,hm];exact h1,h2⟩
  · cases h
 case appN w x y=>
  simp only[A4] at h;split at h
  · rename_i hx
    cases h1:Gh w y d with
    |none=>rw[h1] at h;cases h
    | some r=>
      obtain⟨new,d1⟩:=r;rw[h1] at h;obtain⟨s1,e1,e2⟩:=Qs hs h1;obtain⟨s2,e3,e4⟩:=UD e2 h hg;have ex:=(E x).of (by rw[hx];simp);rw[hx] at ex;exact⟨s2,by simp only[AX,ex,DV.enc,e1];exact e3,e4⟩
  · cases h
 case app w x y=>
  simp only[A4] at h
  cases h1:Gh w y d with
  |none=>rw[h1] at h;cases h
  | some r=>
    obtain⟨new,d1⟩:=r;rw[h1] at h;obtain⟨s1,e1,e2⟩:=Qs hs h1;obtain⟨s2,e3,e4⟩:=UD e2 h hg;exact⟨s2,by simp only[AX,e1];exact e3,e4⟩
 case allocB i zs=>
  simp only[A4] at h;by_cases hc:(Nat.blt i d.bx.length&&EH zs)=true
  · rw[Ab hc] at h;simp only[Ah] at hc;simp only[Ai,Ak] at h;obtain⟨rfl,rfl,rfl⟩:=h;simp only[AX];rw[Ab ⟨by rw[← hs.bx.len];exact BS hc.1,(FQ zs hc.2).1⟩];exact⟨_,rfl,(hs.sl.clearBox i).clr _,hs.bx.put i (.inr (Vb hc.2)),hs.hp⟩
  · rw[Ad hc] at h;cases h
 case boxB i n x=>
  simp only[A4] at h;by_cases hc:(Nat.blt i (AE x d).2.bx.length&&(AE x d).1.cells.length == n&&Ca (AE x d).1.cells)=true
  · rw[Ab hc] at h;simp only[Ah,AA] at hc;obtain⟨⟨h1,rfl⟩,h3⟩:=hc;obtain⟨m1,m2⟩:=C5 x hs (LF _ h3);simp only[Ai,Ak] at h;obtain⟨rfl,rfl,rfl⟩:=h;simp only[AX,m1,GN,DN];rw[Ab ⟨by rw[← m2.bx.len];exact BS h1,trivial,Iz _ h3⟩];exact⟨_,rfl,(m2.sl.clearBox i).clr _,m2.bx.put i (.inr (EL.news _)),m2.hp⟩
  · rw[Ad hc] at h;cases h
 case allocH zs=>
  simp only[A4] at h;by_cases hc:EH zs=true
  · rw[Ab hc] at h;simp only[Ai,Ak] at h;obtain⟨rfl,rfl,rfl⟩:=h;simp only[AX];rw[Ab (FQ zs hc).1,← hs.hp.len];exact⟨_,rfl,hs.sl.clr _,hs.bx,hs.hp.append (.inr (Vb hc))⟩
  · rw[Ad hc] at h;cases h
 case boxH n x=>
  simp only[A4] at h;by_cases hc:((AE x d).1.cells.length == n&&Ca (AE x d).1.cells)=true
  · rw[Ab hc] at h;simp only[Ah,AA] at hc;obtain⟨rfl,h3⟩:=hc;obtain⟨m1,m2⟩:=C5 x hs (LF _ h3);simp only[Ai,Ak] at h;obtain⟨rfl,rfl,rfl⟩:=h;simp only[AX,m1,GN,DN];rw[Ab ⟨trivial,Iz _ h3⟩,← m2.hp.len];exact⟨_,rfl,m2.sl.clr _,m2.bx,m2.hp.append (.inr (EL.news _))⟩
  · rw[Ad hc] at h;cases h
 case build zs ps=>
  simp only[A4] at h;by_cases hc:EH zs=true
  · rw[Ab hc] at h
    cases hf:Ga (Ey zs) ps d with
    |none=>rw[hf] at h;cases h
    | some r=>
      obtain⟨cs,d1⟩:=r;rw[hf] at h;simp only[Ai,Ak] at h;obtain⟨rfl,rfl,rfl⟩:=h;obtain⟨s',e1,e2⟩:=Qc ps hs hf;rw[(FQ zs hc).2.1] at e1;simp only[AX];rw[Ab (FQ zs hc).1,e1];exact⟨s',rfl,e2⟩
  · rw[Ad hc] at h;cases h
 case mkSlice w z len=>
  simp only[A4] at h
  cases he:len.dev d.sl with
  | int k n=>
    rw[he] at h
    cases k<;>try (cases h)
    simp only at h;split at h
    · rename_i r hr;split at h
      · rename_i x hx;split at h
        · rename_i hc;simp only[Ah,AA] at hc;obtain⟨⟨⟨h1,h2⟩,h3⟩,h4⟩:=hc;simp only[Ai,Ak] at h;obtain⟨rfl,rfl,rfl⟩:=h;have hp:=E len;rw[he] at hp;simp only[AX,hp.of (by simp),DV.enc];rw[Ab ⟨hg.1,h1,BS h3,(FQ z h4).1,hg.2⟩];refine⟨s,?_,hs⟩;rw[WY];rw[aU,← KF hx,(FQ z h4).2.1]
        · cases h
      · cases h
    · cases h
  |_=>rw[he] at h;cases h
 case litSlice w n zs ps=>
  simp only[A4] at h;by_cases hn:(n == 0)=true
  · rw[Ab hn] at h;simp only[Ai,Ak] at h;obtain⟨rfl,rfl,rfl⟩:=h;simp only[AX];rw[Ab (by simpa using hn)];refine⟨s,?_,hs⟩;cases ty<;>rfl
  · rw[Ad hn] at h;split at h
    · rename_i hc;simp only[Ah,AA] at hc;obtain⟨⟨h1,h2⟩,h3⟩:=hc;split at h
      · rename_i cs d1 hf;split at h
        · rename_i r hr;split at h
          · split at h
            · rename_i l hl;simp only[Ai,Ak] at h;obtain⟨rfl,rfl,rfl⟩:=h;obtain⟨s',e1,e2⟩:=Qc ps hs hf;rw[(FQ zs h1).2.1] at e1;simp only[AX];rw[Ad (by simpa using hn),Ab ⟨(FQ zs h1).1,h2,BS h3⟩,e1];refine⟨s',?_,e2⟩;simp only[BB,DV.enc,TO r w n cs l hl]
            · cases h
          · cases h
        · cases h
      · cases h
    · cases h
 case extract x i=>
  simp only[A4] at h
  cases x with
  |c v=>cases h
  | t t =>
    simp only at h;have ht:EV (AQ d.sl t) (Aa s.sl t):=hs.sl.get t
    cases hv:AQ d.sl t with
    | tup vs=>
      rw[hv] at h ht;simp only at h;have hp:Aa s.sl t= .tup (DV.encL vs):=ht.of (by simp);split at h
      · rename_i hc;simp only[Ah] at hc;simp only[AX,hp];rw[DN,Ab (show i<vs.length from BS hc.1),← J9,GW,OI];split at h
        · rename_i ho;rw[Ab ho];split at h
          · cases h
          · rename_i hb;rw[Ad hb];simp only[Ai,Ak] at h;obtain⟨rfl,rfl,rfl⟩:=h;refine⟨_,rfl,?_,hs.bx,hs.hp⟩;refine(EL.put t hs.sl (.inr ?_)).clr _;show PV.tup _=PV.tup _;rw[Oh];rfl
        · rename_i ho;rw[Ad ho];simp only[Ai,Ak] at h;obtain⟨rfl,rfl,rfl⟩:=h;exact⟨_,rfl,hs⟩
      · cases h
    |_=>rw[hv] at h;cases h
theorem Rx{w:Nat}{new:DSrc}{r:RT}{n:List r.D}(h:new.to r=some n)(l:List r.D)(hw:r.w=w):l.map (RT.enc r)++new.es=(l++n).map (RT.enc r)∧BE w (l.map (RT.enc r)++new.es)=true:=by
 have:l.map (RT.enc r)++new.es=(l++n).map (RT.enc r):=by rw[Mn h,DU]
 exact⟨this,by rw[this];exact hw▸Ds r (l++n)⟩
theorem OU{w:Nat}{es:List (List PV)}(h:BE w es=true):C0 [(0,w)] (.sl .own es)=some (.sl (.ownw w) es):=by
 show DF w (.sl .own es)=_;simp only[DF];rw[Ab h]
theorem je{w:Nat}{es:List (List PV)}:C0 [(0,w)] (.sl (.ownw w) es)=some (.sl (.ownw w) es):=by
 show DF w (.sl (.ownw w) es)=_;simp only[DF,AB]
theorem Mh{w:Nat}{es:List (List PV)}{c:Prop} [Decidable c](h:BE w es=true):C0 [(0,w)] (.sl (if c then .ownw w else .own) es)=some (.sl (.ownw w) es):=by
 split
 · exact je
 · exact OU h
theorem bC{w:Nat}{x:Opnd}{new:DSrc}{d d':DS}{s:PS}{g:PX}{v:DV}(hs:ES d s)(h:Mp w x new d=some (g,v,d'))(hg:g.den):∃ s' v0,Fx w x new.es s=some (v0,s')∧C0 [(0,w)] v0=some v.enc∧ES d' s':=by
 have hx:=x.dev_ev hs;unfold Mp at h;by_cases h0:(Nat.blt 0 w&&new.w w)=true
 · simp only [h0,OL,Aw,AK] at h;simp only[Ah] at h0;have hw0:0<w:=BS h0.1;have haw:=gS h0.2;unfold Fx
   cases hv:x.dev d.sl with
   | nil q =>
     rw[hv] at h hx;rw[hx.of (by simp)]
     cases q with
     | own=>
       have hk:=mv_ok (.nil .own) hv rfl (fun _=>rfl) rfl;obtain⟨m1,m2⟩:=C5 x hs (by rw[hk];rfl);simp only[DV.enc,AV,Bc,BL]
       cases new with
       | nil=>
         simp only[HW,Ai,Ak] at h;obtain⟨rfl,rfl,rfl⟩:=h;rw[Ab ⟨hw0,rfl,by simp[DSrc.es,AP]⟩];exact⟨_,_,rfl,OU haw,m2⟩
       | sl r l=>
         simp only[HW,Ai,Ak] at h;obtain⟨rfl,rfl,rfl⟩:=h;rw[Ab ⟨hw0,rfl,by simpa [DSrc.es,PX.den] using hg⟩];exact⟨_,_,rfl,OU haw,m2⟩
     | ownw w'=>
       simp only at h;by_cases hw':(w' == w)=true
       · rw[Ab hw'] at h
         have hw':w'=w:=by simpa using hw'
         subst hw';have hk:=mv_ok (.nil (.ownw w')) hv rfl (fun _=>rfl) rfl;obtain⟨m1,m2⟩:=C5 x hs (by rw[hk];rfl);simp only[DV.enc,AV,Bc,BL]
         cases new with
         | nil=>
           simp only[HW,Ai,Ak] at h;obtain⟨rfl,rfl,rfl⟩:=h;rw[Ab ⟨hw0,trivial,rfl,by simp[DSrc.es,AP]⟩];exact⟨_,_,rfl,Mh haw,m2⟩
         | sl r l=>
           simp only[HW,Ai,Ak] at h;obtain⟨rfl,rfl,rfl⟩:=h;rw[Ab ⟨hw0,trivial,rfl,by simpa [DSrc.es,PX.den] using hg⟩];exact⟨_,_,rfl,Mh haw,m2⟩
       · rw[Ad hw'] at h;cases h
     |_=>cases h
   | sl q r l=>
     rw[hv] at h hx;rw[hx.of (by simp)]
     cases q with
     | own =>
       simp only at h;by_cases hw:(r.w == w)=true
       · rw[Ab hw] at h
         have hw':r.w=w:=by simpa using hw
         cases ht:new.to r with
         |none=>rw[ht] at h;cases h
         | some n=>
           rw[ht] at h;simp only[Ai,Ak] at h;obtain⟨rfl,rfl,rfl⟩:=h;have hk:=mv_ok (.sl .own r l) hv rfl (fun _=>rfl) rfl;obtain⟨m1,m2⟩:=C5 x hs (by rw[hk];rfl);obtain⟨a1,a2⟩:=Rx ht l hw';simp only[DV.enc,Az,I6 ht];rw[Ab ⟨hw0,hw'▸Ds r l,hg⟩];exact⟨_,_,rfl,by rw[OU a2,a1];simp only[I0],m2⟩
       · rw[Ad hw] at h;cases h
     | ownw w'=>
       simp only at h;by_cases hw:(w' == w&&r.w == w)=true
       · rw[Ab hw] at h;simp only[Ah,AA] at hw;obtain⟨rfl,hw'⟩:=hw
         cases ht:new.to r with
         |none=>rw[ht] at h;cases h
         | some n=>
           rw[ht] at h;simp only[Ai,Ak] at h;obtain⟨rfl,rfl,rfl⟩:=h;have hk:=mv_ok (.sl (.ownw w') r l) hv rfl (fun _=>rfl) rfl;obtain⟨m1,m2⟩:=C5 x hs (by rw[hk];rfl);obtain⟨a1,a2⟩:=Rx ht l hw';simp only[DV.enc,Az,I6 ht];rw[Ab ⟨hw0,trivial,hw'▸Ds r l,hg⟩];exact⟨_,_,rfl,by rw[Mh a2,a1];simp only[I0],m2⟩
       · rw[Ad hw] at h;cases h
     | pre hd p=>
      match p,h with
      | [c],h=>
        simp only at h ⊢
        cases hk:Bt d hd [c]<;>rw[hk] at h<;>try (cases h;done)
        rename_i q rh lh
        have hne:Bt d hd [c]≠.any:=by rw[hk];simp
        have e1:=FT hs hd [c] hne;rw[hk] at e1;have e3:=Iv hs hd [c] .undef hne
        have tk:∀ {n:List rh.D},new.to rh=some n→rh.w=w→(lh.map (RT.enc rh)).take l.length++new.es=(lApp (lTake lh (lN l)) n).map (RT.enc rh)∧BE w ((lh.map (RT.enc rh)).take l.length++new.es)=true:=by
         intro n ht hw';have:=Rx ht (lh.take l.length) hw';rw[OX] at this;simp only[I0,Rr,MJ];exact this
        cases q<;>try (cases h;done)
        case own=>
         simp only at h;by_cases hw:(rh.w == w)=true
         · rw[Ab hw] at h
           have hw':rh.w=w:=by simpa using hw
           cases ht:new.to rh with
           |none=>rw[ht] at h;cases h
           | some n=>
             rw[ht] at h;simp only[Ai,Ak] at h;obtain⟨rfl,rfl,rfl⟩:=h;obtain⟨a1,a2⟩:=tk ht hw';simp only[DV.enc,e1,Az,I6 ht];rw[Ab ⟨hw0,hw'▸Ds rh lh,hg.1,hg.2.1,hg.2.2⟩];exact⟨_,_,rfl,by rw[Mh a2,a1],e3⟩
         · rw[Ad hw] at h;cases h
        case ownw w'=>
         simp only at h;by_cases hw:(w' == w&&rh.w == w)=true
         · rw[Ab hw] at h;simp only[Ah,AA] at hw;obtain⟨rfl,hw'⟩:=hw
           cases ht:new.to rh with
           |none=>rw[ht] at h;cases h
           | some n=>
             rw[ht] at h;simp only[Ai,Ak] at h;obtain⟨rfl,rfl,rfl⟩:=h;obtain⟨a1,a2⟩:=tk ht hw';simp only[DV.enc,e1,Az,I6 ht];rw[Ab ⟨hw0,trivial,hw'▸Ds rh lh,hg.1,hg.2.1,hg.2.2⟩];exact⟨_,_,rfl,by rw[Mh a2,a1],e3⟩
         · rw[Ad hw] at h;cases h
      |[],h=>cases h
      |_::_::_,h=>cases h
     |_=>cases h
   |_=>rw[hv] at h;cases h
 · simp only[h0] at h;cases h
theorem Se{w:Nat}{v v':DV}(h:MR w v=some v'):DF w v.enc=some v'.enc:=by
 unfold MR at h;split at h
 · cases h;rfl
 · split at h
   · rename_i hw;have hw:=AA.mp hw;subst hw;cases h;simp only[DV.enc,DF,AB]
   · cases h
 · rename_i r l;split at h
   · rename_i hw;have hw:=AA.mp hw;cases h;simp only[DV.enc,DF];rw[Ab (hw▸Ds r l)]
   · cases h
 · split at h
   · rename_i hw;have hw:=AA.mp hw;subst hw;cases h;simp only[DV.enc,DF,AB]
   · cases h
 · cases h
theorem WL:∀ (ws:List (Nat×Nat)) {l l':List DV},Pw ws l=some l'→Js ws (DV.encL l)=some (DV.encL l')
 |[],l,l',h=>by cases h;rfl
 | (c,w)::r,l,l',h=>by
   unfold Pw at h
   split at h
   · rename_i v hv
     unfold Js
     rw[← J9,Se hv]
     simp only
     rw[← Oh]
     exact WL r h
   · cases h
theorem jX{ws:List (Nat×Nat)}{v v':DV}(h:Jt ws v=some v'):C0 ws v.enc=some v'.enc:=by
 unfold Jt at h;split at h
 · simp only[Bd] at h;obtain⟨l',h1,rfl⟩:=h;show (Js ws _).map PV.agg=_;rw[WL ws h1];rfl
 · rename_i q;split at h
   · exact Se (v:=.nil q) h
   · cases h
 · rename_i q r l;split at h
   · exact Se (v:=.sl q r l) h
   · cases h
 · cases h
theorem aY{ws:List (Nat×Nat)}{m:Bool}{o:AOp}{ty:Option RT}{d d':DS}{s:PS}{g:PX}{v:DV}(hs:ES d s)(h:IX ws m o ty d=some (g,v,d'))(hg:g.den):∃ s' v0,AX m o s=some (v0,s')∧C0 ws v0=some v.enc∧ES d' s':=by
 have gen:(match A4 m o ty d with|some (g,v,st)=>(match Jt ws v with|some v=>some (g,v,st)|none=>none)|none=>none)=some (g,v,d')→∃ s' v0,AX m o s=some (v0,s')∧C0 ws v0=some v.enc∧ES d' s':=by
  intro h
  cases h1:A4 m o ty d with
  |none=>rw[h1] at h;cases h
  | some r=>
    obtain⟨g1,v1,d1⟩:=r;rw[h1] at h;simp only at h
    cases h2:Jt ws v1 with
    |none=>rw[h2] at h;cases h
    | some v2=>
      rw[h2] at h;simp only[Ai,Ak] at h;obtain⟨rfl,rfl,rfl⟩:=h;obtain⟨s',e1,e2⟩:=T7 hs h1 hg;exact⟨s',_,e1,jX h2,e2⟩
 cases o<;>first|exact gen h|skip
 case app w x y=>
  simp only[IX] at h;split at h
  · rename_i w';split at h
    · rename_i hw;have hw:=AA.mp hw;subst hw
      cases h1:Gh w' y d with
      |none=>rw[h1] at h;cases h
      | some r=>
        obtain⟨new,d1⟩:=r;rw[h1] at h;obtain⟨s1,e1,e2⟩:=Qs hs h1;obtain⟨s2,v0,e3,e4,e5⟩:=bC e2 h hg;exact⟨s2,v0,by simp only[AX,e1];exact e3,e4,e5⟩
    · cases h
  · cases h
def Chg:List DC→List DC→Prop
 |_,[]=>True
 |[],c::r=>c.d=true∧Chg [] r
 |b::a,c::r=>(c.d=true∨c=b)∧Chg a r
def ChgB:List (List DC)→List (List DC)→Prop
 |_,[]=>True
 |[],c::r=>Chg [] c∧ChgB [] r
 |b::a,c::r=>Chg b c∧ChgB a r
structure ChgS (x y:DS):Prop where
 sl:Chg x.sl y.sl
 bx:ChgB x.bx y.bx
 hp:ChgB x.hp y.hp
theorem Chg.refl:∀ (x:List DC),Chg x x
 |[]=>trivial
 |_::r=>⟨.inr rfl,Chg.refl r⟩
theorem Chg.trans:∀ {x y z:List DC},Chg x y→Chg y z→Chg x z
 |_,_,[],_,_=>by cases ‹List DC›<;>trivial
 |[],[],_::_,_,h=>h
 |_::a,[],c::r,_,h=>⟨.inl h.1,Chg.trans (x:=a) (y:=[]) (by cases a<;>trivial) h.2⟩
 | [],b::a,c::r,h,h'=>by
   refine⟨?_,Chg.trans h.2 h'.2⟩
   rcases h'.1 with h1|h1
   · exact h1
   · rw[h1];exact h.1
 | e::x,b::a,c::r,h,h'=>by
   refine⟨?_,Chg.trans h.2 h'.2⟩
   rcases h'.1 with h1|h1
   · exact .inl h1
   · rw[h1];exact h.1
theorem ChgB.refl:∀ (x:List (List DC)),ChgB x x
 |[]=>trivial
 |b::r=>⟨Chg.refl b,ChgB.refl r⟩
theorem ChgB.trans:∀ {x y z:List (List DC)},ChgB x y→ChgB y z→ChgB x z
 |_,_,[],_,_=>by cases ‹List (List DC)›<;>trivial
 |[],[],_::_,_,h=>h
 |b::a,[],c::r,_,h=>⟨Chg.trans (y:=[]) (by trivial) h.1,ChgB.trans (x:=a) (y:=[]) (by cases a<;>trivial) h.2⟩
 |[],b::a,c::r,h,h'=>⟨h.1.trans h'.1,ChgB.trans h.2 h'.2⟩
 |e::x,b::a,c::r,h,h'=>⟨h.1.trans h'.1,ChgB.trans h.2 h'.2⟩
theorem ChgS.refl(x:DS):ChgS x x:=⟨Chg.refl _,ChgB.refl _,ChgB.refl _⟩
theorem ChgS.trans{x y z:DS}(h:ChgS x y)(h':ChgS y z):ChgS x z:=⟨h.sl.trans h'.sl,h.bx.trans h'.bx,h.hp.trans h'.hp⟩
theorem Chg.put:∀ (x:List DC) (n:Nat) (v:DV),Chg x (Ce x n v)
 |[],_,_=>trivial
 |_::r,0,_=>⟨.inl rfl,Chg.refl r⟩
 |_::r,n+1,v=>⟨.inr rfl,Chg.put r n v⟩
theorem Chg.clr(hd:Hd):∀ (x:List DC),Chg x (Cd hd x)
 |[]=>trivial
 | c::r=>by
   refine⟨?_,Chg.clr hd r⟩
   split
   · exact .inl rfl
   · exact .inr rfl
theorem Chg.clearBox(i:Nat):∀ (x:List DC),Chg x (Lu i x)
 |[]=>trivial
 | c::r=>by
   refine⟨?_,Chg.clearBox i r⟩
   split
   · exact .inl rfl
   · exact .inr rfl
theorem Chg.keep(live:List Nat):∀ (n:Nat) (x:List DC),Chg x (Pb live n x)
 |_,[]=>trivial
 | n,c::r=>by
   refine⟨?_,Chg.keep live (n+1) r⟩
   split
   · split
     · exact .inl rfl
     · exact .inr rfl
   · exact .inl rfl
theorem Chg.trim(live:List Nat):∀ (n:Nat) (x:List DC),Chg x (Pt live n x)
 |_,[]=>trivial
 | n,c::r=>by
   refine⟨?_,Chg.trim live (n+1) r⟩
   split
   · exact .inr rfl
   · exact .inl rfl
theorem Chg.splice:∀ (x:List DC) (n:Nat) (vs:List DV),Chg x (FZ x n vs)
 |[],n,[]=>trivial
 |_::_,0,[]=>Chg.refl _
 |_::_,_+1,[]=>Chg.refl _
 |[],_,_::_=>trivial
 |_::r,0,v::vs=>⟨.inl rfl,Chg.splice r 0 vs⟩
 |_::r,n+1,v::vs=>⟨.inr rfl,Chg.splice r n (v::vs)⟩
theorem Chg.news:∀ (x:List DC) (vs:List DV),Chg x (Go.Ag.news vs)
 |x,[]=>by cases x<;>trivial
 |[],v::vs=>⟨rfl,Chg.news [] vs⟩
 |_::a,v::vs=>⟨.inl rfl,Chg.news a vs⟩
theorem ChgB.put:∀ (x:List (List DC)) (i:Nat) {v:List DC},Chg (A7 x i) v→ChgB x (DA x i v)
 |[],_,_,_=>trivial
 |_::r,0,_,h=>⟨h,ChgB.refl r⟩
 |_::r,n+1,v,h=>⟨Chg.refl _,ChgB.put r n h⟩
theorem ChgB.app:∀ (x:List (List DC)) (vs:List DV),ChgB x (x++[Go.Ag.news vs])
 |[],vs=>⟨Chg.news [] vs,trivial⟩
 |b::r,vs=>⟨Chg.refl b,ChgB.app r vs⟩
theorem Chg.rem:∀ {x y:List DC},Chg (Go.Ag.clean x) y→Chg x (KL x y)
 |x,[],_=>by cases x<;>trivial
 |[],_::_,h=>h
 | b :: a,c::r,h=>by
   refine⟨?_,Chg.rem h.2⟩
   rcases h.1 with h1|h1
   · left;simp[h1]
   · subst h1
     cases hb:b.d with
     |true=>left;rfl
     |false=>right;obtain⟨d,v⟩:=b;simp only at hb;subst hb;rfl
theorem ChgB.rem:∀ {x y:List (List DC)},ChgB (Kt x) y→ChgB x (MO x y)
 |x,[],_=>by cases x<;>trivial
 |[],_::_,h=>h
 |b::a,c::r,h=>⟨h.1.rem,ChgB.rem h.2⟩
theorem ChgS.rem{x y:DS}(h:ChgS x.clean y):ChgS x (H8 x y):=⟨h.sl.rem,h.bx.rem,h.hp.rem⟩
theorem ChgS.put(d:DS)(n:Option Nat)(v:DV):ChgS d (d.put n v):=by
 cases n with
 |none=>exact ChgS.refl d
 | some n=>
   simp only[DS.put];split
   · exact⟨(Chg.put _ _ _).trans (Chg.clr _ _),ChgB.refl _,ChgB.refl _⟩
   · exact⟨Chg.put _ _ _,ChgB.refl _,ChgB.refl _⟩
theorem ChgS.mvOut(x:Opnd)(d:DS):ChgS d (AE x d).2:=by
 cases x with
 |c v=>exact ChgS.refl d
 | t n=>
   simp only[AE,MP];split
   · split
     · exact ChgS.refl d
     · exact⟨(Chg.put _ _ _).trans (Chg.clr _ _),ChgB.refl _,ChgB.refl _⟩
   · exact ChgS.refl d
theorem ChgS.fzOut(x:Opnd)(d:DS):ChgS d (IM x d).2:=by
 cases x with
 |c v=>exact ChgS.refl d
 | t n=>
   simp only[IM,Py];split
   · split
     · exact⟨(Chg.put _ _ _).trans (Chg.clr _ _),ChgB.refl _,ChgB.refl _⟩
     · exact ChgS.refl d
   · exact ChgS.refl d
theorem ChgS.setK(d:DS)(v:DV):∀ (hd:Hd) (p:List Nat),ChgS d (Eo d v hd p)
 |.s t,p=>⟨(Chg.put _ _ _).trans (Chg.clr _ _),ChgB.refl _,ChgB.refl _⟩
 |.b i,[c]=>⟨Chg.clr _ _,ChgB.put _ _ (Chg.put _ _ _),ChgB.refl _⟩
 |.h i,[c]=>⟨Chg.clr _ _,ChgB.refl _,ChgB.put _ _ (Chg.put _ _ _)⟩
 |.b i,[]=>ChgS.refl d
 |.b i,_::_::_=>ChgS.refl d
 |.h i,[]=>ChgS.refl d
 |.h i,_::_::_=>ChgS.refl d
 |.x i,_=>ChgS.refl d
theorem QG:∀ (ps:List (Nat×Nat×Opnd)) {cs cs':List DV} {d d':DS},Ga cs ps d=some (cs',d')→ChgS d d'
 | [],cs,cs',d,d',h=>by
   simp only[Ga,Ai,Ak] at h
   obtain⟨_,rfl⟩:=h
   exact ChgS.refl d
 | (off,size,x)::r,cs,cs',d,d',h=>by
   unfold Ga at h
   split at h
   · exact(ChgS.mvOut x d).trans (QG r h)
   · cases h
theorem Ri{w:Nat}{y:Opnd}{d d':DS}{new:DSrc}(h:Gh w y d=some (new,d')):ChgS d d':=by
 unfold Gh at h
 split at h<;>(try split at h)<;>first|(cases h;done)|(simp only[Ai,Ak] at h;obtain⟨_,rfl⟩:=h;first|exact ChgS.refl _|exact ChgS.mvOut y d)
theorem VW{w:Nat}{x:Opnd}{new:DSrc}{d d':DS}{g:PX}{v:DV}(h:KN w x new d=some (g,v,d')):ChgS d d':=by
 unfold KN at h;split at h
 · cases h
 · repeat' split at h
   all_goals first|(cases h;done)|(simp only[Ai,Ak] at h;obtain⟨_,_,rfl⟩:=h;first|exact ChgS.mvOut x d|exact ChgS.setK _ _ _ _)
theorem c9{m:Bool}{i:Nat}{n:Option Nat}{a:DV}{d d':DS}{g:PX}{v:DV}(h:I8 m i n a d=some (g,v,d')):ChgS d d':=by
 unfold I8 at h;split at h
 · cases m with
   | true=>
     simp only[AB] at h;split at h
     · simp only[Bd,Ak] at h;obtain⟨_,_,_,_,rfl⟩:=h;exact⟨Chg.clr _ _,ChgB.put _ _ (Chg.splice _ _ _),ChgB.refl _⟩
     · cases h
   | false=>
     simp only[Aw,AK] at h;split at h
     · simp only[Bd,Ak] at h;obtain⟨_,_,_,_,rfl⟩:=h;exact ChgS.refl _
     · cases h
 · cases h
theorem cK{m:Bool}{n:Option Nat}{a:DV}{d d':DS}{g:PX}{v:DV}(h:HF m n a d=some (g,v,d')):ChgS d d':=by
 unfold HF at h;split at h
 · cases m with
   | true=>
     simp only[AB] at h;split at h
     · simp only[Bd,Ak] at h;obtain⟨_,_,_,_,rfl⟩:=h;exact⟨Chg.clr _ _,ChgB.refl _,ChgB.put _ _ (Chg.splice _ _ _)⟩
     · cases h
   | false=>
     simp only[Aw,AK] at h;split at h
     · simp only[Bd,Ak] at h;obtain⟨_,_,_,_,rfl⟩:=h;exact ChgS.refl _
     · cases h
 · split at h
   · split at h
     · simp only[Bd,Ak] at h;obtain⟨_,_,_,_,rfl⟩:=h;exact ChgS.refl _
     · cases h
   · cases h
 · cases h
theorem b8{i n:Nat}{a x:Opnd}{d d':DS}{g:PX}{v:DV}(h:LX i n a x d=some (g,v,d')):ChgS d d':=by
 unfold LX at h;simp only at h;split at h
 · split at h
   · simp only[Ai,Ak] at h;obtain⟨_,_,rfl⟩:=h;refine(ChgS.mvOut x d).trans ⟨?_,ChgB.put _ _ (Chg.splice _ _ _),ChgB.refl _⟩;split
     · exact Chg.clr _ _
     · exact Chg.refl _
   · cases h
 · cases h
theorem ca{n:Nat}{a x:Opnd}{d d':DS}{g:PX}{v:DV}(h:LY n a x d=some (g,v,d')):ChgS d d':=by
 unfold LY at h;simp only at h;split at h
 · split at h
   · simp only[Ai,Ak] at h;obtain⟨_,_,rfl⟩:=h;refine(ChgS.mvOut x d).trans ⟨?_,ChgB.refl _,ChgB.put _ _ (Chg.splice _ _ _)⟩;dsimp only;split
     · exact Chg.clr _ _
     · exact Chg.refl _
   · cases h
 · split at h
   · split at h
     · split at h
       · simp only[Ai,Ak] at h;obtain⟨_,_,rfl⟩:=h;exact(ChgS.mvOut x d).trans (ChgS.setK _ _ _ _)
       · cases h
     · cases h
   · cases h
 · cases h
theorem dT{m:Bool}{n:Option Nat}{a:DV}{d d':DS}{r:C3}{g:PX}{v:DV}(h:HE m n a d=some r)(hr:r=some (g,v,d')):ChgS d d':=by
 unfold HE at h;split at h
 · simp only[Ai] at h;rw[hr] at h;split at h
   · simp only[Ai,Ak] at h;obtain⟨_,_,rfl⟩:=h;exact ChgS.refl _
   · cases h
 · cases h
theorem bP{n:Nat}{hd:Hd}{p k j o:Nat}{w:DV}{d d':DS}{g:PX}{v:DV}(h:LN n hd p k j o w d=some (g,v,d')):ChgS d d':=by
 unfold LN at h;split at h
 · split at h
   · split at h
     · simp only[Ai,Ak] at h;obtain⟨_,_,rfl⟩:=h;exact ChgS.setK _ _ _ _
     · cases h
   · cases h
 · cases h
theorem jn(x:Opnd)(d:DS):(G4 x d).2=d:=by cases x<;>rfl
theorem dw{w:Nat}{new:DSrc}{d d':DS}{g:PX}{v:DV}(h:HW w new d=some (g,v,d')):d'=d:=by
 unfold HW at h;split at h<;>(simp only[Ai,Ak] at h;exact h.2.2.symm)
theorem eA{w:Nat}{x:Opnd}{new:DSrc}{d d':DS}{g:PX}{v:DV}(h:Mp w x new d=some (g,v,d')):ChgS d d':=by
 unfold Mp at h;split at h
 · cases h
 · repeat' split at h
   all_goals first|(cases h;done)|(have:=dw h;subst this;exact ChgS.mvOut x d)|(simp only[Ai,Ak] at h;obtain⟨_,_,rfl⟩:=h;first|exact ChgS.mvOut x d|exact ChgS.setK _ _ _ _)
theorem UZ{m:Bool}{o:AOp}{ty:Option RT}{d d':DS}{g:PX}{v:DV}(h:A4 m o ty d=some (g,v,d')):ChgS d d':=by
 have pure:(KC o (fun x=>x.dev d.sl)).map (fun r=>(r.1,r.2,d))=some (g,v,d')→ChgS d d':=fun h=>by
  simp only[Bd,Ak] at h;obtain⟨_,_,_,_,rfl⟩:=h;exact ChgS.refl _
 cases o<;>first|exact pure h|skip
 case mv x=>
  cases m with
  | true=>
    simp only[A4,AB] at h;split at h
    · simp only[Ai,Ak] at h;obtain⟨_,_,rfl⟩:=h;rw[jn];exact ChgS.refl d
    · cases h
  | false=>
    simp only[A4,Aw,AK] at h;split at h
    · simp only[Ai,Ak] at h;obtain⟨_,_,rfl⟩:=h;exact ChgS.mvOut x d
    · cases h
 case loadB i n a=>exact c9 h
 case loadH n a=>
  simp only[A4] at h;split at h
  · rename_i h1;exact dT h1 h
  · exact cK h
 case storeB i n a x=>exact b8 h
 case storeH n a x=>
  simp only[A4] at h;split at h
  · split at h
    · exact bP h
    · exact ca h
  · cases h
 case app w x y=>
  simp only[A4] at h;split at h
  · rename_i h1;exact(Ri h1).trans (VW h)
  · cases h
 case appN w x y=>
  simp only[A4] at h;split at h
  · split at h
    · rename_i h1;exact(Ri h1).trans (VW h)
    · cases h
  · cases h
 case allocB i zs=>
  simp only[A4] at h;split at h
  · simp only[Ai,Ak] at h;obtain⟨_,_,rfl⟩:=h;exact⟨(Chg.clearBox _ _).trans (Chg.clr _ _),ChgB.put _ _ (Chg.news _ _),ChgB.refl _⟩
  · cases h
 case boxB i n x=>
  simp only[A4] at h;split at h
  · simp only[Ai,Ak] at h;obtain⟨_,_,rfl⟩:=h;exact(ChgS.mvOut x d).trans ⟨(Chg.clearBox _ _).trans (Chg.clr _ _),ChgB.put _ _ (Chg.news _ _),ChgB.refl _⟩
  · cases h
 case allocH zs=>
  simp only[A4] at h;split at h
  · simp only[Ai,Ak] at h;obtain⟨_,_,rfl⟩:=h;exact⟨Chg.clr _ _,ChgB.refl _,ChgB.app _ _⟩
  · cases h
 case boxH n x=>
  simp only[A4] at h;split at h
  · simp only[Ai,Ak] at h;obtain⟨_,_,rfl⟩:=h;exact(ChgS.mvOut x d).trans ⟨Chg.clr _ _,ChgB.refl _,ChgB.app _ _⟩
  · cases h
 case build zs ps=>
  simp only[A4] at h;split at h
  · split at h
    · rename_i hf;simp only[Ai,Ak] at h;obtain⟨_,_,rfl⟩:=h;exact QG ps hf
    · cases h
  · cases h
 case mkSlice w z len=>
  simp only[A4] at h
  repeat' split at h
  all_goals first|(cases h;done)|(simp only[Ai,Ak] at h;obtain⟨_,_,rfl⟩:=h;exact ChgS.refl _)
 case litSlice w n zs ps=>
  simp only[A4] at h;split at h
  · simp only[Ai,Ak] at h;obtain⟨_,_,rfl⟩:=h;exact ChgS.refl _
  · split at h
    · split at h
      · rename_i hf;have:=QG ps hf
        repeat' split at h
        all_goals first|(cases h;done)|(simp only[Ai,Ak] at h;obtain⟨_,_,rfl⟩:=h;exact this)
      · cases h
    · cases h
 case extract x i=>
  simp only[A4] at h
  repeat' split at h
  all_goals first|(cases h;done)|(simp only[Ai,Ak] at h;obtain⟨_,_,rfl⟩:=h;first|exact ChgS.refl _|exact⟨(Chg.put _ _ _).trans (Chg.clr _ _),ChgB.refl _,ChgB.refl _⟩)
theorem cu{ws:List (Nat×Nat)}{m:Bool}{o:AOp}{ty:Option RT}{d d':DS}{g:PX}{v:DV}(h:IX ws m o ty d=some (g,v,d')):ChgS d d':=by
 have gen:(match A4 m o ty d with|some (g,v,st)=>(match Jt ws v with|some v=>some (g,v,st)|none=>none)|none=>none)=some (g,v,d')→ChgS d d':=by
  intro h
  cases h1:A4 m o ty d with
  |none=>rw[h1] at h;cases h
  | some r=>
    obtain⟨g1,v1,d1⟩:=r;rw[h1] at h;simp only at h
    cases h2:Jt ws v1 with
    |none=>rw[h2] at h;cases h
    | some v2=>
      rw[h2] at h;simp only[Ai,Ak] at h;obtain⟨_,_,rfl⟩:=h;exact UZ h1
 cases o<;>first|exact gen h|skip
 case app w x y=>
  simp only[IX] at h;split at h
  · split at h
    · split at h
      · rename_i h1;exact(Ri h1).trans (eA h)
      · cases h
    · cases h
  · cases h
theorem Fv{α:Type}(x y:α):bSel true x y=x:=by simp only[R9,EG,EM]
theorem Em{α:Type}(x y:α):bSel false x y=y:=by simp only[R9,EG,EM]
theorem WX(c:Bool)(x y:BX):(Px c x y).b=bif c then x.b else y.b:=by
 cases x<;>cases y<;>rename_i x y<;>cases c<;>cases x<;>cases y<;>simp[Px,BX.b,Kk,Xt,R6,R9]
theorem Ja{q q':Ql}(h:CZ q q'=true):q=q':=of_decide_eq_true h
mutual
theorem OT(c:Bool):∀ (x y:DV),B5 c x y= .any∨(B5 c x y).enc=(bif c then x.enc else y.enc)
 | .undef,y=>by
   cases y<;>first|exact .inl rfl|skip
   case undef=>cases c<;>exact .inr rfl
 | .bool a,y=>by
   cases y<;>first|exact .inl rfl|skip
   case bool b=>right;simp only[B5,DV.enc,WX];cases c<;>rfl
 | .int k a,y=>by
   cases y<;>first|exact .inl rfl|skip
   case int k' b=>
    simp only[B5]
    split
    · rename_i hk;have:=OK hk;subst this
      right;cases c<;>simp only[DV.enc,Fv,Em,EG,EM]
    · exact .inl rfl
 | .str a,y=>by
   cases y<;>first|exact .inl rfl|skip
   case str b=>right;cases c<;>simp only[B5,DV.enc,Fv,Em,EG,EM]
 | .ifc a,y=>by
   cases y<;>first|exact .inl rfl|skip
   case ifc b=>right;cases c<;>simp only[B5,DV.enc,Fv,Em,EG,EM]
 | .nil q,y=>by
   cases y<;>first|exact .inl rfl|skip
   case nil q'=>
    simp only[B5]
    split
    · rename_i hq;have:=Ja hq;subst this;right;cases c<;>rfl
    · exact .inl rfl
   case sl q' r l=>
    simp only[B5]
    split
    · rename_i hq;have:=Ja hq;subst this;right
      cases c<;>simp only[DV.enc,Fv,Em,EG,EM,Ma]
    · exact .inl rfl
 | .sl q r l,y=>by
   cases y<;>first|exact .inl rfl|skip
   case nil q'=>
    simp only[B5]
    split
    · rename_i hq;have:=Ja hq;subst this;right
      cases c<;>simp only[DV.enc,Fv,Em,EG,EM,Ma]
    · exact .inl rfl
   case sl q' r' l'=>
    simp only[B5]
    split
    · rename_i hq;have:=Ja hq;subst this
      split
      · rename_i l2 hl
        right
        cases c<;>simp only[DV.enc,Fv,Em,EG,EM,(Ot hl).2]
      · exact .inl rfl
    · exact .inl rfl
 | .box i o,y=>by
   cases y<;>first|exact .inl rfl|skip
   case box i' o'=>
    simp only[B5]
    split
    · rename_i h;simp only[Ah,AA] at h;obtain⟨rfl,rfl⟩:=h;right;cases c<;>rfl
    · exact .inl rfl
 | .ptr i o,y=>by
   cases y<;>first|exact .inl rfl|skip
   case ptr i' o'=>
    simp only[B5]
    split
    · rename_i h;simp only[Ah,AA] at h;obtain⟨rfl,rfl⟩:=h;right;cases c<;>rfl
    · exact .inl rfl
 | .agg a,y=>by
   cases y<;>first|exact .inl rfl|skip
   case agg b=>
    simp only[B5]
    split
    · rename_i h;simp only[Ah,AA] at h
      right
      have:=RO c a b h.1 h.2
      cases c<;>simp only[DV.enc,this,EG,EM]
    · exact .inl rfl
 | .tup a,y=>by
   cases y<;>first|exact .inl rfl|skip
   case tup b=>
    simp only[B5]
    split
    · rename_i h;simp only[Ah,AA] at h
      right
      have:=RO c a b h.1 h.2
      cases c<;>simp only[DV.enc,this,EG,EM]
    · exact .inl rfl
 |.any,y=>by cases y<;>exact .inl rfl
 |.ep _ _ _ _ _,y=>by cases y<;>exact .inl rfl
theorem RO(c:Bool):∀ (x y:List DV),x.length=y.length→DV.okL (G7 c x y)=true→DV.encL (G7 c x y)=(bif c then DV.encL x else DV.encL y)
 |[],[],_,_=>by cases c<;>rfl
 |[],_::_,h,_=>by cases h
 |_::_,[],h,_=>by cases h
 | x :: a,y::b,h,hk=>by
   simp only[G7,DV.okL,Ah] at hk
   have h1:=RO c a b (by simpa using h) hk.2
   rcases OT c x y with h2|h2
   · rw[h2] at hk;cases hk.1
   · simp only[G7,DV.encL,h1,h2]
     cases c<;>rfl
end
theorem ib{c:Bool}{x y:DV}{p:PV}(h:EV (bif c then x else y) p):EV (B5 c x y) p:=by
 rcases OT c x y with h1|h1
 · exact .inl h1
 · cases c with
   | true=>
     rcases h with h|h
     · simp only[EG] at h;subst h;exact .inl (by cases y<;>rfl)
     · exact .inr (by rw[h1];exact h)
   | false=>
     rcases h with h|h
     · simp only[EM] at h;subst h;exact .inl (by cases x<;>rfl)
     · exact .inr (by rw[h1];exact h)
theorem RQ{c:Bool}:∀ {b x y:List DC} {p:List PV},Chg b x→Chg b y→x.length=y.length→EL (bif c then x else y) p→EL (Mx c x y) p
 |_,[],[],p,_,_,_,h=>by cases c<;>exact h
 |_,[],_::_,_,_,_,h,_=>by cases h
 |_,_::_,[],_,_,_,h,_=>by cases h
 |b,x::a,y::e,[],_,_,_,h=>by cases c<;>exact h.elim
 | b,x::a,y::e,q::p,h1,h2,hl,h=>by
   have hr:∃ b',Chg b' a∧Chg b' e∧((x.d=true∨y.d=true)∨x=y):=by
    cases b with
    |nil=>exact⟨[],h1.2,h2.2,.inl (.inl h1.1)⟩
    | cons b0 b=>
      refine⟨b,h1.2,h2.2,?_⟩;rcases h1.1 with e1|e1
      · exact .inl (.inl e1)
      · rcases h2.1 with e2|e2
        · exact .inl (.inr e2)
        · exact .inr (e1.trans e2.symm)
   obtain⟨b',h3,h4,h5⟩:=hr;have ih:=RQ (c:=c) (p:=p) h3 h4 (by simpa using hl) (by cases c<;>exact h.2);refine⟨?_,ih⟩
   have hv:EV (bif c then x.v else y.v) q:=by cases c<;>exact h.1
   unfold Pz;split
   · exact ib hv
   · rename_i hd;rcases h5 with h5|h5
     · exfalso;apply hd;rcases h5 with h5|h5<;>simp[h5]
     · subst h5;cases c<;>exact hv
theorem RJ{c:Bool}:∀ {b x y:List (List DC)} {p:List (List PV)},ChgB b x→ChgB b y→x.length=y.length→EB (bif c then x else y) p→EB (Mw c x y) p
 |_,[],[],p,_,_,_,h=>by cases c<;>exact h
 |_,[],_::_,_,_,_,h,_=>by cases h
 |_,_::_,[],_,_,_,h,_=>by cases h
 |b,x::a,y::e,[],_,_,_,h=>by cases c<;>exact h.elim
 | b,x::a,y::e,q::p,h1,h2,hl,h=>by
   have hr:∃ b0 b',Chg b0 x∧Chg b0 y∧ChgB b' a∧ChgB b' e:=by
    cases b with
    |nil=>exact⟨[],[],h1.1,h2.1,h1.2,h2.2⟩
    |cons b0 b=>exact⟨b0,b,h1.1,h2.1,h1.2,h2.2⟩
   obtain⟨b0,b',h3,h4,h5,h6⟩:=hr;have ih:=RJ (c:=c) (p:=p) h5 h6 (by simpa using hl) (by cases c<;>exact h.2);refine⟨?_,ih⟩
   have hv:EBx (bif c then x else y) q:=by cases c<;>exact h.1
   split
   · rename_i hxy
     have hxy:x.length=y.length:=by simpa using hxy
     rcases hv with hv|hv
     · cases c
       · simp only[EM] at hv;subst hv;have:x=[]:=Dy hxy;subst this;exact .inl rfl
       · simp only[EG] at hv;subst hv;have:y=[]:=Dy hxy.symm;subst this;exact .inl rfl
     · exact .inr (RQ h3 h4 hxy hv)
   · exact .inl rfl
theorem jo{c:Bool}{b x y z:DS}{s:PS}(hx:ChgS b x)(hy:ChgS b y)(h:Jm c x y=some z)(hs:ES (bif c then x else y) s):ES z s:=by
 unfold Jm at h;split at h
 · rename_i hl;simp only[Ah,AA] at hl;simp only[Ai] at h;subst h;exact⟨RQ hx.sl hy.sl hl.1.1 (by cases c<;>exact hs.sl),RJ hx.bx hy.bx hl.1.2 (by cases c<;>exact hs.bx),RJ hx.hp hy.hp hl.2 (by cases c<;>exact hs.hp)⟩
 · cases h
theorem Lw{c:Bool}:∀ {b x y:List DC},Chg b x→Chg b y→Chg b (Mx c x y)
 |b,[],_,_,_=>by cases b<;>trivial
 |b,_::_,[],_,_=>by cases b<;>trivial
 |[],x::a,y::e,h,h'=>⟨by simp[Pz,h.1],Lw h.2 h'.2⟩
 | b::_,x::a,y::e,h,h'=>by
   refine⟨?_,Lw h.2 h'.2⟩
   unfold Pz
   split
   · exact .inl rfl
   · exact h.1
theorem N7{c:Bool}:∀ {b x y:List (List DC)},ChgB b x→ChgB b y→ChgB b (Mw c x y)
 |b,[],_,_,_=>by cases b<;>trivial
 |b,_::_,[],_,_=>by cases b<;>trivial
 | [],x::a,y::e,h,h'=>by
   refine⟨?_,N7 h.2 h'.2⟩
   split
   · exact Lw h.1 h'.1
   · trivial
 | b::_,x::a,y::e,h,h'=>by
   refine⟨?_,N7 h.2 h'.2⟩
   split
   · exact Lw h.1 h'.1
   · cases b<;>trivial
theorem fU{c:Bool}{b x y z:DS}(hx:ChgS b x)(hy:ChgS b y)(h:Jm c x y=some z):ChgS b z:=by
 unfold Jm at h;split at h
 · simp only[Ai] at h;subst h;exact⟨Lw hx.sl hy.sl,N7 hx.bx hy.bx,N7 hx.hp hy.hp⟩
 · cases h
theorem PX.land_den:∀ (a b:PX),(a.land b).den↔a.den∧b.den
 |.tt,b=>by simp[PX.land,PX.den]
 |.ff,b=>by simp[PX.land,PX.den]
 |.p h,b=>by cases b<;>simp[PX.land,PX.den]
 |.and x y,b=>by cases b<;>simp[PX.land,PX.den]
 |.ite c x y,b=>by cases b<;>simp[PX.land,PX.den]
theorem PX.if_den(c:Bool)(a b:PX):(PX.if' c a b).den↔(c=true→a.den)∧(c=false→b.den):=by
 cases a<;>cases b<;>simp[PX.if',PX.den]
def AExit.isN:AExit→Bool
 |.normal=>true
 |_=>false
def DT.lf:DT→Option (AExit×DS)
 |.leaf e st=>some (e,st)
 |.node c a b=>(match c with|true=>a.lf|false=>b.lf)
 |.chk _ t=>t.lf
 |.bad=>none
def DT.All(P:DS→Prop):DT→Prop
 |.leaf _ st=>P st
 |.node _ a b=>a.All P∧b.All P
 |.chk _ t=>t.All P
 |.bad=>True
theorem DT.All.imp{P Q:DS→Prop}(h:∀ st,P st→Q st):∀ {t:DT},t.All P→t.All Q
 |.leaf _ _,a=>h _ a
 |.node _ _ _,a=>⟨DT.All.imp h a.1,DT.All.imp h a.2⟩
 |.chk _ t,a=>DT.All.imp h (t:=t) a
 |.bad,_=>trivial
theorem DT.ok_lf:∀ {t:DT},t.ok.den→∃ e st,t.lf=some (e,st)
 |.leaf e st,_=>⟨e,st,rfl⟩
 | .node c a b,h=>by
   have h:=(PX.if_den c a.ok b.ok).mp h
   cases c
   · exact DT.ok_lf (t:=b) (h.2 rfl)
   · exact DT.ok_lf (t:=a) (h.1 rfl)
 |.chk g t,h=>DT.ok_lf (t:=t) ((PX.land_den g t.ok).mp h).2
 |.bad,h=>h.elim
theorem DT.All.lf{P:DS→Prop}:∀ {t:DT} {e:AExit} {st:DS},t.All P→t.lf=some (e,st)→P st
 |.leaf e st,_,_,h,hl=>by simp only[DT.lf,Ai,Ak] at hl;obtain⟨_,rfl⟩:=hl;exact h
 | .node c a b,_,_,h,hl=>by
   cases c
   · exact DT.All.lf (t:=b) h.2 hl
   · exact DT.All.lf (t:=a) h.1 hl
 |.chk g t,_,_,h,hl=>DT.All.lf (t:=t) h hl
 |.bad,_,_,_,hl=>by cases hl
theorem DT.norm_chg{b:DS}:∀ {t:DT} {m:DS},t.All (ChgS b)→t.norm= .some m→ChgS b m
 | .leaf e st,m,h,hn=>by
   cases e<;>simp only[DT.norm,reduceCtorEq,NS.some.injEq] at hn
   subst hn;exact h
 | .node c x y,m,h,hn=>by
   simp only[DT.norm] at hn
   cases h1:x.norm with
   |none=>rw[h1] at hn;exact DT.norm_chg h.2 hn
   | fail=>
     rw[h1] at hn
     cases h2:y.norm<;>rw[h2] at hn<;>cases hn
   | some a=>
     rw[h1] at hn
     cases h2:y.norm with
     |none=>rw[h2] at hn;exact DT.norm_chg h.1 (h1.trans hn)
     |fail=>rw[h2] at hn;cases hn
     | some e=>
       rw[h2] at hn
       simp only at hn
       cases h3:Jm c a e with
       |none=>rw[h3] at hn;cases hn
       | some z=>
         rw[h3] at hn
         simp only[NS.some.injEq] at hn
         subst hn
         exact fU (DT.norm_chg h.1 h1) (DT.norm_chg h.2 h2) h3
 |.chk g t,m,h,hn=>DT.norm_chg (t:=t) h hn
 |.bad,m,h,hn=>by cases hn
theorem DT.norm_none:∀ {t:DT} {e:AExit} {st:DS},t.norm= .none→t.lf=some (e,st)→e.isN=false
 | .leaf e st,_,_,hn,hl=>by
   simp only[DT.lf,Ai,Ak] at hl;obtain⟨rfl,_⟩:=hl
   cases e<;>first|rfl|cases hn
 | .node c x y,e,st,hn,hl=>by
   simp only[DT.norm] at hn
   have hxy:x.norm= .none∧y.norm= .none:=by
    cases h1:x.norm<;>rw[h1] at hn<;>cases h2:y.norm<;>rw[h2] at hn<;>first|exact⟨rfl,rfl⟩|(cases hn;done)|(simp only at hn;split at hn<;>cases hn)
   cases c
   · exact DT.norm_none hxy.2 hl
   · exact DT.norm_none hxy.1 hl
 |.chk g t,_,_,hn,hl=>DT.norm_none (t:=t) hn hl
 |.bad,_,_,_,hl=>by cases hl
theorem DT.norm_s{b:DS}:∀ {t:DT} {m st:DS} {s:PS},t.All (ChgS b)→t.norm= .some m→t.lf=some (.normal,st)→ES st s→ES m s
 | .leaf e st0,m,st,s,h,hn,hl,hs=>by
   simp only[DT.lf,Ai,Ak] at hl
   obtain⟨rfl,rfl⟩:=hl
   simp only[DT.norm,NS.some.injEq] at hn
   subst hn;exact hs
 | .node c x y,m,st,s,h,hn,hl,hs=>by
   simp only[DT.norm] at hn
   cases h1:x.norm with
   | none=>
     rw[h1] at hn
     cases c with
     |true=>have:=DT.norm_none h1 hl;cases this
     |false=>exact DT.norm_s h.2 hn hl hs
   | fail=>
     rw[h1] at hn
     cases h2:y.norm<;>rw[h2] at hn<;>cases hn
   | some a=>
     rw[h1] at hn
     cases h2:y.norm with
     | none=>
       rw[h2] at hn
       cases c with
       |true=>exact DT.norm_s h.1 (h1.trans hn) hl hs
       |false=>have:=DT.norm_none h2 hl;cases this
     |fail=>rw[h2] at hn;cases hn
     | some e=>
       rw[h2] at hn
       simp only at hn
       cases h3:Jm c a e with
       |none=>rw[h3] at hn;cases hn
       | some z=>
         rw[h3] at hn
         simp only[NS.some.injEq] at hn
         subst hn
         refine jo (DT.norm_chg h.1 h1) (DT.norm_chg h.2 h2) h3 ?_
         cases c with
         |true=>exact DT.norm_s h.1 h1 hl hs
         |false=>exact DT.norm_s h.2 h2 hl hs
 |.chk g t,m,st,s,h,hn,hl,hs=>DT.norm_s (t:=t) h hn hl hs
 |.bad,m,st,s,h,hn,hl,hs=>by cases hl
theorem DT.cont_s:∀ {t:DT} {b:BX} {e:AExit} {st:DS},t.cont=some b→t.lf=some (e,st)→b.b=e.isN
 | .leaf e st0,b,e',st,hc,hl=>by
   simp only[DT.lf,Ai,Ak] at hl;obtain⟨rfl,_⟩:=hl;cases e<;>simp only[DT.cont,Ai] at hc<;>subst hc<;>rfl
 | .node c x y,b,e,st,hc,hl=>by
   have hno:∀ {t:DT},t.cont=none→t.lf=none:=by
    intro t
    induction t with
    |leaf e st=>intro h;cases e<;>cases h
    | node c x y ih1 ih2=>
      intro h;simp only[DT.cont] at h
      cases h1:x.cont<;>rw[h1] at h<;>cases h2:y.cont<;>rw[h2] at h<;>first|(cases h;done)|skip
      cases c
      · exact ih2 h2
      · exact ih1 h1
    |chk g t ih=>intro h;exact ih h
    |bad=>intro _;rfl
   simp only[DT.cont] at hc
   cases h1:x.cont with
   | none=>
     rw[h1] at hc
     cases c with
     |true=>simp only[DT.lf,hno h1] at hl;cases hl
     |false=>exact DT.cont_s hc hl
   | some p=>
     rw[h1] at hc
     cases h2:y.cont with
     | none=>
       rw[h2] at hc
       cases c with
       |true=>exact DT.cont_s (h1.trans hc) hl
       |false=>simp only[DT.lf,hno h2] at hl;cases hl
     | some q=>
       rw[h2] at hc;simp only[Ai] at hc;subst hc;rw[WX]
       cases c with
       |true=>exact DT.cont_s h1 hl
       |false=>exact DT.cont_s h2 hl
 |.chk g t,b,e,st,hc,hl=>DT.cont_s (t:=t) hc hl
 |.bad,b,e,st,hc,hl=>by cases hl
theorem DT.cont_none:∀ {t:DT},t.cont=none→t.lf=none
 |.leaf e st,h=>by cases e<;>cases h
 | .node c x y,h=>by
   simp only[DT.cont] at h
   cases h1:x.cont<;>rw[h1] at h<;>cases h2:y.cont<;>rw[h2] at h<;>first|(cases h;done)|skip
   cases c
   · exact DT.cont_none (t:=y) h2
   · exact DT.cont_none (t:=x) h1
 |.chk g t,h=>DT.cont_none (t:=t) h
 |.bad,_=>rfl
theorem DT.drop_lf:∀ {t:DT} {e:AExit} {st:DS},t.lf=some (e,st)→e.isN=false→t.drop.lf=some (e,st)
 | .leaf e st0,e',st,hl,he=>by
   simp only[DT.lf,Ai,Ak] at hl;obtain⟨rfl,rfl⟩:=hl
   cases e<;>first|rfl|cases he
 | .node c x y,e,st,hl,he=>by
   have hnb:∀ a b:DT,(DT.nodeB c a b).lf=some (e,st)∨(match c with|true=>a.lf|false=>b.lf)≠some (e,st):=by
    intro a b
    cases c with
    | true=>
      cases ha:a with
      |bad=>right;simp[DT.lf]
      | _=>
        rw[← ha];by_cases h:a.lf=some (e,st)
        · left;cases hb:b<;>rw[ha] at h ⊢<;>exact h
        · right;exact h
    | false=>
      cases hb:b with
      |bad=>right;simp[DT.lf]
      | _=>
        rw[← hb];by_cases h:b.lf=some (e,st)
        · left;cases ha:a<;>rw[hb] at h ⊢<;>exact h
        · right;exact h
   simp only[DT.drop];rcases hnb x.drop y.drop with h|h
   · exact h
   · exfalso;apply h
     cases c with
     |true=>exact DT.drop_lf (t:=x) hl he
     |false=>exact DT.drop_lf (t:=y) hl he
 |.chk g t,e,st,hl,he=>DT.drop_lf (t:=t) hl he
 |.bad,e,st,hl,he=>by cases hl
theorem DT.drop_all{P:DS→Prop}:∀ {t:DT},t.All P→t.drop.All P
 |.leaf e st,h=>by cases e<;>first|trivial|exact h
 | .node c x y,h=>by
   have h1:=DT.drop_all h.1
   have h2:=DT.drop_all h.2
   simp only[DT.drop]
   cases hx:x.drop<;>cases hy:y.drop<;>rw[hx] at h1<;>rw[hy] at h2<;>first|trivial|exact h1|exact h2|exact⟨h1,h2⟩
 |.chk g t,h=>DT.drop_all (t:=t) h
 |.bad,_=>trivial
theorem DT.map_lf(f:DS→DS):∀ (t:DT),(t.map f).lf=t.lf.map fun x=>(x.1,f x.2)
 |.leaf _ _=>rfl
 | .node c a b=>by
   cases c
   · exact DT.map_lf f b
   · exact DT.map_lf f a
 |.chk _ t=>DT.map_lf f t
 |.bad=>rfl
theorem DT.map_ok(f:DS→DS):∀ (t:DT),(t.map f).ok=t.ok
 |.leaf _ _=>rfl
 |.node c a b=>by simp only[DT.map,DT.ok,DT.map_ok f a,DT.map_ok f b]
 |.chk _ t=>by simp only[DT.map,DT.ok,DT.map_ok f t]
 |.bad=>rfl
theorem DT.map_all{P Q:DS→Prop}{f:DS→DS}(h:∀ st,P st→Q (f st)):∀ {t:DT},t.All P→(t.map f).All Q
 |.leaf _ _,a=>h _ a
 |.node _ _ _,a=>⟨DT.map_all h a.1,DT.map_all h a.2⟩
 |.chk _ t,a=>DT.map_all h (t:=t) a
 |.bad,_=>trivial
theorem DT.unexit_ok(i:Nat):∀ (t:DT),(t.unexit i).ok=t.ok
 | .leaf e st=>by
   cases e<;>first|rfl|skip
   simp only[DT.unexit];split<;>rfl
 |.node c a b=>by simp only[DT.unexit,DT.ok,DT.unexit_ok i a,DT.unexit_ok i b]
 |.chk _ t=>by simp only[DT.unexit,DT.ok,DT.unexit_ok i t]
 |.bad=>rfl
def AExit.un(i:Nat):AExit→AExit
 |.exit j=>if j=i then .normal else .exit j
 |e=>e
theorem DT.unexit_lf(i:Nat):∀ (t:DT),(t.unexit i).lf=t.lf.map fun x=>(x.1.un i,x.2)
 | .leaf e st=>by
   cases e<;>first|rfl|skip
   rename_i j
   simp only[DT.unexit,DT.lf,BB,AExit.un]
   by_cases h:j=i
   · rw[Ab (by simpa using h),Ab h];rfl
   · rw[Ad (by simpa using h),Ad h];rfl
 | .node c a b=>by
   cases c
   · exact DT.unexit_lf i b
   · exact DT.unexit_lf i a
 |.chk _ t=>DT.unexit_lf i t
 |.bad=>rfl
theorem DT.unexit_all{P:DS→Prop}(i:Nat):∀ {t:DT},t.All P→(t.unexit i).All P
 | .leaf e st,a=>by
   cases e<;>first|exact a|skip
   simp only[DT.unexit];split<;>exact a
 |.node _ _ _,a=>⟨DT.unexit_all i a.1,DT.unexit_all i a.2⟩
 |.chk _ t,a=>DT.unexit_all i (t:=t) a
 |.bad,_=>trivial
theorem DT.chk_ok(g:PX)(t:DT):(DT.chk' g t).ok.den↔g.den∧t.ok.den:=by
 cases g<;>simp only[DT.chk',DT.ok,PX.land_den,PX.den,IJ]
theorem DT.chk_lf(g:PX)(t:DT):(DT.chk' g t).lf=t.lf:=by cases g<;>rfl
theorem DT.chk_all{P:DS→Prop}(g:PX){t:DT}(h:t.All P):(DT.chk' g t).All P:=by cases g<;>exact h
theorem DT.bind_s{f:DS→DT}{h:DS→DS}:∀ {t:DT} {e:AExit} {st:DS},(t.bind f h).ok.den→(t.bind f h).lf=some (e,st) →
 t.ok.den∧((∃ st0,t.lf=some (.normal,st0)∧(f st0).ok.den∧(f st0).lf=some (e,st))∨(e.isN=false∧∃ st0,t.lf=some (e,st0)∧st=h st0))
 | .leaf e0 st0,e,st,ho,hl=>by
   cases e0 with
   |normal=>exact⟨trivial,.inl ⟨st0,rfl,ho,hl⟩⟩
   | ret=>
     simp only[DT.bind,DT.lf,Ai,Ak] at hl
     obtain⟨rfl,rfl⟩:=hl
     exact⟨trivial,.inr ⟨rfl,st0,rfl,rfl⟩⟩
   | exit i=>
     simp only[DT.bind,DT.lf,Ai,Ak] at hl
     obtain⟨rfl,rfl⟩:=hl
     exact⟨trivial,.inr ⟨rfl,st0,rfl,rfl⟩⟩
 | .node c a b,e,st,ho,hl=>by
   have ho:=(PX.if_den c _ _).mp ho
   cases c with
   | true=>
     obtain⟨h1,h2⟩:=DT.bind_s (t:=a) (ho.1 rfl) hl
     exact⟨(PX.if_den _ _ _).mpr ⟨fun _=>h1,fun h=>by cases h⟩,h2⟩
   | false=>
     obtain⟨h1,h2⟩:=DT.bind_s (t:=b) (ho.2 rfl) hl
     exact⟨(PX.if_den _ _ _).mpr ⟨fun h=>(by cases h),fun _=>h1⟩,h2⟩
 | .chk g t,e,st,ho,hl=>by
   have ho:=(PX.land_den g _).mp ho
   obtain⟨h1,h2⟩:=DT.bind_s (t:=t) ho.2 hl
   exact⟨(PX.land_den _ _).mpr ⟨ho.1,h1⟩,h2⟩
 |.bad,e,st,ho,hl=>ho.elim
theorem DT.bind_all{P Q:DS→Prop}{f:DS→DT}{h:DS→DS}(hf:∀ st,P st→(f st).All Q)(hh:∀ st,P st→Q (h st)):∀ {t:DT},t.All P→(t.bind f h).All Q
 |.leaf e st,a=>by cases e<;>first|exact hf _ a|exact hh _ a
 |.node _ _ _,a=>⟨DT.bind_all hf hh a.1,DT.bind_all hf hh a.2⟩
 |.chk _ t,a=>DT.bind_all hf hh (t:=t) a
 |.bad,_=>trivial
theorem DT.then_s{b:DS}{f:DS→DT}{h:DS→DS}{t:DT}{e:AExit}{st:DS}(hb:t.All (ChgS b))(ho:(t.then f h).ok.den)(hl:(t.then f h).lf=some (e,st)) :
 t.ok.den∧((∃ st0 m,t.lf=some (.normal,st0)∧(∀ s,ES st0 s→ES m s)∧ChgS b m∧(f m).ok.den∧(f m).lf=some (e,st))∨(e.isN=false∧∃ st0,t.lf=some (e,st0)∧st=h st0)):=by
 have viaBind:(t.bind f h).ok.den→(t.bind f h).lf=some (e,st)→t.ok.den∧((∃ st0 m,t.lf=some (.normal,st0)∧(∀ s,ES st0 s→ES m s)∧ChgS b m∧(f m).ok.den∧(f m).lf=some (e,st))∨(e.isN=false∧∃ st0,t.lf=some (e,st0)∧st=h st0)):=fun ho hl=>by
  obtain⟨h1,h2⟩:=DT.bind_s ho hl;refine⟨h1,h2.imp ?_ id⟩;rintro⟨st0,h3,h4,h5⟩;exact⟨st0,st0,h3,fun _ h=>h,hb.lf h3,h4,h5⟩
 unfold DT.then at ho hl
 split at ho
 · rename_i hn
   rw[Ab hn] at hl;exact viaBind ho hl
 · rename_i hn
   rw[Ad hn] at hl
   cases hm:t.norm with
   |none=>rw[hm] at ho hl;exact viaBind ho hl
   |fail=>rw[hm] at ho hl;exact viaBind ho hl
   | some m=>
     rw[hm] at ho hl;simp only[DT.chk_ok,DT.chk_lf] at ho hl;obtain⟨ho1,ho2⟩:=ho;refine⟨ho1,?_⟩;obtain⟨e0,st0,h0⟩:=DT.ok_lf ho1
     have nrm:e0.isN=true→(f m).ok.den→(f m).lf=some (e,st)→((∃ st0 m,t.lf=some (.normal,st0)∧(∀ s,ES st0 s→ES m s)∧ChgS b m∧(f m).ok.den∧(f m).lf=some (e,st))∨(e.isN=false∧∃ st0,t.lf=some (e,st0)∧st=h st0)):=fun he h1 h2=>by
      have he:e0= .normal:=by cases e0<;>first|rfl|cases he
      subst he;exact .inl ⟨st0,m,h0,fun s hs=>DT.norm_s hb hm h0 hs,DT.norm_chg hb hm,h1,h2⟩
     cases hc:t.cont with
     |none=>rw[hc] at ho2;exact ho2.elim
     | some c=>
       have hcs:=DT.cont_s hc h0
       cases c with
       | lit c=>
         cases c with
         |false=>rw[hc] at ho2;exact ho2.elim
         | true=>
           rw[hc] at ho2 hl;exact nrm hcs.symm ho2 hl
       | dyn c=>
         rw[hc] at ho2 hl;simp only[BX.b] at hcs;subst hcs;have ho2:=(PX.if_den _ _ _).mp ho2
         cases he:e0.isN with
         | true=>
           rw[he] at hl;exact nrm he (ho2.1 he) hl
         | false=>
           rw[he] at hl;simp only[DT.lf,DT.map_lf,DT.drop_lf h0 he,BB,Ai,Ak] at hl;obtain⟨rfl,rfl⟩:=hl;exact .inr ⟨he,st0,h0,rfl⟩
theorem DT.then_all{b:DS}{Q:DS→Prop}{f:DS→DT}{h:DS→DS}{t:DT}(hb:t.All (ChgS b))(hf:∀ st,ChgS b st→(f st).All Q)(hh:∀ st,ChgS b st→Q (h st)):(t.then f h).All Q:=by
 unfold DT.then;split
 · exact DT.bind_all hf hh hb
 · cases hm:t.norm with
   |none=>exact DT.bind_all hf hh hb
   |fail=>exact DT.bind_all hf hh hb
   | some m=>
     have h1:=hf m (DT.norm_chg hb hm);refine DT.chk_all _ ?_
     cases hc:t.cont with
     |none=>trivial
     | some c=>
       cases c with
       |lit c=>cases c<;>first|trivial|exact h1
       |dyn c=>exact⟨h1,DT.map_all hh (DT.drop_all hb)⟩
theorem dG(v:DV):v.enc.isAgg=v.isAgg:=by cases v<;>rfl
theorem dS{v:DV}(h:v.flatc=true):v.enc.flatc=true∧∀ q es,v.enc≠.sl q es:=by cases v<;>first|(cases h;done)|exact⟨rfl,fun _ _ h=>(by cases h)⟩
theorem eE{s:PS}{hd:Hd}{c:Nat}{v:PV}{os as:List PV}(h:v.flatc=true)(hr:Gk s hd (c+1) os as):Gk s hd c (v::os) (v::as):=by
 cases v<;>first|exact⟨rfl,h,hr⟩|(cases h;done)
theorem Kj{d:DS}{s:PS}(hs:ES d s){hd:Hd}:∀ (vs:List DV) (c:Nat) {g:PX} {os:List DV},Eu d hd c vs=some (g,os)→g.den→Gk s hd c (DV.encL os) (DV.encL vs)
 | [],c,g,os,h,_=>by
   simp only[Eu,Ai,Ak] at h;rw[← h.2];trivial
 | v :: vs,c,g,os,h,hg=>by
   have flat:v.flatc=true→(match Eu d hd (c+1) vs with|some (g,os)=>some (g,v::os)|none=>none)=some (g,os)→Gk s hd c (DV.encL os) (DV.encL (v::vs)):=by
    intro hf h
    cases h1:Eu d hd (c+1) vs with
    |none=>rw[h1] at h;cases h
    | some r=>
      obtain⟨g1,os1⟩:=r;rw[h1] at h;simp only[Ai,Ak] at h;obtain⟨rfl,rfl⟩:=h;exact eE (dS hf).1 (Kj hs vs (c+1) h1 hg)
   have flat':(if v.flatc=true then (match Eu d hd (c+1) vs with|some (g,os)=>some (g,v::os)|none=>none) else none)=some (g,os)→Gk s hd c (DV.encL os) (DV.encL (v::vs)):=by
    intro h;split at h
    · exact flat (by assumption) h
    · cases h
   cases v with
   | sl q r l=>
     simp only[Eu] at h;split at h
     · rename_i hq
       have hq:q= .bor hd [c] true:=by simpa [CZ] using hq
       subst hq
       cases h1:Eu d hd (c+1) vs with
       |none=>rw[h1] at h;split at h<;>simp_all
       | some r=>
         obtain⟨g1,os1⟩:=r;rw[h1] at h
         have hk:Bt d hd [c]≠.any:=by intro e;rw[e] at h;cases h
         have ek:=FT hs hd [c] hk;split at h
         · rename_i r' l' g2 os2 e1 e2;simp only[Ai,Ak] at h e2;obtain⟨rfl,rfl⟩:=h;obtain⟨rfl,rfl⟩:=e2;have hg:=(PX.land_den _ _).mp hg;have hl:l.length=l'.length:=hg.1;refine⟨rfl,by rw[ek,e1];rfl,⟨_,rfl,?_⟩,Kj hs vs (c+1) h1 hg.2⟩;rw[Az,Az];exact hl
         · rename_i g2 os2 e1 e2;simp only[Ai,Ak] at h e2;obtain⟨rfl,rfl⟩:=h;obtain⟨rfl,rfl⟩:=e2;have hg:=(PX.land_den _ _).mp hg;have hl:l.length=0:=hg.1;refine⟨rfl,by rw[ek,e1];rfl,⟨_,rfl,?_⟩,Kj hs vs (c+1) h1 hg.2⟩;rw[Az];exact hl
         · cases h
     · cases h
   | nil q=>
     simp only[Eu] at h;split at h
     · rename_i hq
       have hq:q= .bor hd [c] true:=by simpa [CZ] using hq
       subst hq
       cases h1:Eu d hd (c+1) vs with
       |none=>rw[h1] at h;split at h<;>simp_all
       | some r=>
         obtain⟨g1,os1⟩:=r;rw[h1] at h
         have hk:Bt d hd [c]≠.any:=by intro e;rw[e] at h;cases h
         have ek:=FT hs hd [c] hk;split at h
         · rename_i r' l' g2 os2 e1 e2;simp only[Ai,Ak] at h e2;obtain⟨rfl,rfl⟩:=h;obtain⟨rfl,rfl⟩:=e2;have hg:=(PX.land_den _ _).mp hg;have hl:l'.length=0:=hg.1;refine⟨rfl,by rw[ek,e1];rfl,⟨_,rfl,?_⟩,Kj hs vs (c+1) h1 hg.2⟩;rw[Az];exact hl.symm
         · rename_i g2 os2 e1 e2;simp only[Ai,Ak] at h e2;obtain⟨rfl,rfl⟩:=h;obtain⟨rfl,rfl⟩:=e2;exact⟨rfl,by rw[ek,e1];rfl,⟨_,rfl,rfl⟩,Kj hs vs (c+1) h1 hg⟩
         · cases h
     · cases h
   |_=>exact flat' h
def DV.flag:List DV→Prop
 |[]=>True
 |.sl q _ _::r=>q= .own∧DV.flag r
 |_::r=>DV.flag r
theorem Rs:∀ (r:RT) (x:r.D),DV.flag (r.dv .own x)
 |.one t,x=>by cases t<;>first|trivial|exact⟨rfl,trivial⟩
 |.cons t r,x=>by cases t<;>first|exact⟨rfl,Rs r x.2⟩|exact Rs r x.2
theorem Sw{hd:Hd}{D':DS}{K:PS→Prop}(hK:∀ s',ES D' s'→K s'):∀ (vs:List DV) (c:Nat) {d:DS} {s:PS},ES d s→FD hd c vs d=some D'→DV.flag vs→Jl hd c (DV.encL vs) K s
 | [],c,d,s,hs,h,_=>by
   simp only[FD,Ai] at h;subst h;exact hK _ hs
 | v :: vs,c,d,s,hs,h,hf=>by
   cases v with
   | sl q r l=>
     simp only[FD] at h
     have hk:Bt d hd [c]≠.any:=by intro e;rw[e] at h;cases h
     have ek:=FT hs hd [c] hk
     have hn:FD hd (c+1) vs (Eo d (.sl q r l) hd [c])=some D'∧∃ es0,BT s hd [c]= .sl .own es0:=by
      split at h
      · rename_i e1;exact⟨h,_,by rw[ek,e1];rfl⟩
      · rename_i e1;exact⟨h,_,by rw[ek,e1];rfl⟩
      · cases h
     obtain⟨rfl,hf⟩:=hf;exact⟨hn.2,Sw hK vs (c+1) (Iv hs hd [c] (.sl .own r l) hk) hn.1 hf⟩
   |nil q=>cases h
   |_=>exact Sw hK vs (c+1) hs h hf
theorem RM:∀ (r:RT) (x y:r.D),H6 (RT.enc r x) (RT.enc r y)
 |.one t,x,y=>by cases t<;>first|exact⟨⟨_,rfl⟩,trivial⟩|exact⟨fun _ _ h=>(by cases h),trivial⟩
 |.cons t r,x,y=>by cases t<;>first|exact⟨⟨_,rfl⟩,RM r x.2 y.2⟩|exact⟨fun _ _ h=>(by cases h),RM r x.2 y.2⟩
theorem VD:∀ {vs:List DV} {c:Nat} {hd:Hd} {b:Nat},Pk c vs=some (hd,b)→hd.sb=true
 |[],_,_,_,h=>by cases h
 | v :: vs,c,hd,b,h=>by
   unfold Pk at h
   split at h
   · cases h
   · split at h
     · rename_i hc
       simp only[Ah] at hc
       simp only[Ai,Ak] at h
       rw[← h.1];exact hc.2
     · cases h
   · split at h
     · rename_i hc
       simp only[Ah] at hc
       simp only[Ai,Ak] at h
       rw[← h.1];exact hc.2
     · cases h
   · rename_i h1;cases h1;exact VD h
theorem iZ {d d1:DS}{s:PS}(hs:ES d s){M:DMk}{x y:Opnd}{g:PX}{v:DV}(h:Ji M x y d=some (g,v,d1))(hg:g.den){dst:Option Nat}{k:PS→Prop}(hk:∀ s',ES d1 s'→k (s'.put dst v.enc)):SM M.P x y dst k s:=by
 unfold Ji at h;split at h
 · rename_i m hm;split at h
   · rename_i hc;simp only[Ah] at hc;split at h
     · rename_i hd b hh;split at h
       · rename_i g1 os ho;split at h
         · rename_i z hz;split at h
           · rename_i st' hS;simp only[Ai,Ak] at h;obtain⟨rfl,rfl,rfl⟩:=h;have hg:=(PX.land_den _ _).mp hg
             have hy:y.pev s.sl= .fl (.int .i64 m):=by
              have:=y.dev_ev hs;rw[hm] at this;exact this.of (by simp)
             have hx:x.pev s.sl=(x.dev d.sl).enc:=(x.dev_ev hs).of (by intro e;rw[e] at hc;cases hc.2);refine⟨m,hd,b,M.r.enc z,hy,?_,VD hh,?_,?_,⟨z,rfl,hg.2,RM _ _ _,?_⟩⟩
             · rw[hx,dG];exact eq_of_beq hc.1
             · rw[hx];exact U3 _ hc.2
             · rw[hx,GN,← KF hz];exact Kj hs _ b ho hg.1
             · rw[← O6];have hP:M.P.vd=M.vd:=rfl;refine Sw (fun s' hs'=>?_) _ b hs hS (Rs _ _);have h:=hk s' hs';rw[hP]
               cases hvd:M.vd with
               |true=>rw[hvd] at h;exact h
               |false=>rw[hvd] at h;exact h
           · cases h
         · cases h
       · cases h
     · cases h
   · cases h
 · cases h
theorem Oi{hd:Hd}{D':DS}:∀ (vs:List DV) (c:Nat) {d:DS},FD hd c vs d=some D'→ChgS d D'
 | [],c,d,h=>by
   simp only[FD,Ai] at h
   subst h;exact ChgS.refl _
 | v :: vs,c,d,h=>by
   cases v with
   | sl q r l=>
     simp only[FD] at h
     split at h
     · exact(ChgS.setK _ _ _ _).trans (Oi vs _ h)
     · exact(ChgS.setK _ _ _ _).trans (Oi vs _ h)
     · cases h
   |nil q=>cases h
   |_=>exact Oi vs _ h
theorem et{d d1:DS}{M:DMk}{x y:Opnd}{g:PX}{v:DV}(h:Ji M x y d=some (g,v,d1)):ChgS d d1:=by
 unfold Ji at h
 repeat' split at h
 all_goals first|(cases h;done)|skip
 all_goals
  simp only[Ai,Ak] at h
  obtain⟨_,_,rfl⟩:=h
  exact Oi _ _ (by assumption)
def HI(p:BV)(D:E0):Prop:=∀ (args:List DV) (g:PX) (v:DV) (Q:PV→List (List PV)→Prop),D args=some (g,v)→g.den→(∀ H,Q v.enc H)→p (DV.encL args) [] Q
def Wh(p:BV)(D:Jg):Prop:=∀ (args:List DV) (b:List (List DV)) (g:PX) (v:DV) (H:List (List DV)) (Q:PV→List (List PV)→Prop),D args b=some (g,v,H)→g.den→Q v.enc (EU (G9 b H))→p (DV.encL args) (EU b) Q
inductive ObD where
 |nv (p:BV) (D:E0)
 |wp (p:BV) (D:Jg)
def ObD.sound:ObD→Prop
 |.nv p D=>HI p D
 |.wp p D=>Wh p D
def DOp.obs:DOp→List ObD
 |.a _ _ _=>[]
 |.aw _ _ _ _=>[]
 |.call _ _ p D _=>[.nv p D]
 |.mark _ _ _ _=>[]
 |.callp _ _ p D _=>[.wp p D]
def OG:List DOper→List ObD
 |[]=>[]
 |o::r=>o.op.obs++OG r
def DCode.obs:DCode→List ObD
 |.skip=>[]
 |.region ops=>OG ops
 |.regionU ops=>OG ops
 |.seq _ a b=>a.obs++b.obs
 |.cond _ a b=>a.obs++b.obs
 |.block _ a=>a.obs
 |.loop _ _ a=>a.obs
 |.exit _=>[]
 |.ret=>[]
def AllD:List ObD→Prop
 |[]=>True
 |o::r=>o.sound∧AllD r
theorem AllD.app:∀ {a b:List ObD},AllD (a++b)→AllD a∧AllD b
 |[],_,h=>⟨trivial,h⟩
 |_::_,_,⟨h1,h2⟩=>⟨⟨h1,(AllD.app h2).1⟩,(AllD.app h2).2⟩
theorem Su{d:DS}{s:PS}(hs:ES d s):∀ (args:List Opnd),Fh (Es d.sl args)=true→args.map (·.pev s.sl)=DV.encL (Es d.sl args)
 |[],_=>rfl
 | x::r,h=>by
   simp only[Es,Fh,Ah] at h
   simp only[Bx,Es,DV.encL,Su hs r h.2]
   rw[(x.dev_ev hs).of (by intro e;rw[e] at h;cases h.1)]
theorem Ls:∀ (l:List PV),l.any PV.hasPtr=PV.hasPtrL l
 |[]=>rfl
 |v::r=>by simp only[List.any_cons,PV.hasPtrL,Ls r]
theorem OV:∀ (l:List PV),l.map PV.fz=PV.fzL l
 |[]=>rfl
 |v::r=>by simp only[Bx,PV.fzL,OV r]
theorem Q5:∀ (l:List PV),(l.all fun v=>!v.hold)=!PV.holdL l
 |[]=>rfl
 |v::r=>by simp only[DW,PV.holdL,Q5 r,Bool.not_or]
mutual
theorem VR:∀ (v:DV),v.deep=true→v.enc.deep=true
 |.undef,_|.bool _,_|.int _ _,_|.str _,_|.ifc _,_|.ptr _ _,_=>rfl
 |.nil q,h=>by cases q<;>first|rfl|cases h
 |.sl q r l,h=>by cases q<;>first|(cases h;done)|exact Rc r l
 |.agg cs,h=>QD cs h
 |.tup cs,h=>QD cs h
theorem QD:∀ (l:List DV),DV.deepL l=true→PV.deepL (DV.encL l)=true
 |[],_=>rfl
 | v::r,h=>by
   simp only[DV.deepL,Ah] at h
   simp only[DV.encL,PV.deepL,VR v h.1,QD r h.2,BM]
end
theorem RG(v:DV):v.enc.retc=v.retc:=by
 cases v<;>first|rfl|skip
 case nil q=>cases q<;>rfl
 case sl q r l=>cases q<;>rfl
theorem Wx:∀ (l:List DV),Df (DV.encL l)=Gc l
 |[]=>rfl
 |v::r=>by simp only[DV.encL,Df,Gc,RG v,Wx r]
theorem gx(v:DV):v.enc.retok=v.retok:=by
 cases v<;>first|rfl|skip
 case nil q=>exact RG (.nil q)
 case sl q r l=>exact RG (.sl q r l)
 case agg cs=>exact Wx cs
theorem gb{d:DS}{s:PS}(x:Opnd)(h:ES d s)(hk:∀ n,x= .t n→AQ d.sl n≠.any):ES (IM x d).2 (fzOut x s).2:=by
 cases x with
 |c v=>exact h
 | t n=>
   simp only[IM,Py,fzOut,Td];have hg:=(h.sl.get n).of (hk n rfl);rw[hg,GW,gx];by_cases ho:(AQ d.sl n).own=true
   · simp only[ho,AB];by_cases hr:(AQ d.sl n).retok=true
     · rw[Ab hr,Ab hr,← Xe];exact⟨(h.sl.put n (.inr rfl)).clr _,h.bx,h.hp⟩
     · rw[Ad hr,Ad hr];exact h
   · simp only[ho];exact h
theorem TZ(v:DV):∀ (l:List DC) (k n:Nat),AQ l n= .any→k≠n→AQ (Ce l k v) n= .any
 |[],_,_,_,_=>rfl
 |_::_,0,0,_,hn=>absurd rfl hn
 |_::_,0,_+1,h,_=>h
 |_::_,_+1,0,h,_=>h
 |_::r,k+1,n+1,h,hn=>TZ v r k n h (by simpa using hn)
theorem TU(hd:Hd):∀ (l:List DC) (n:Nat),AQ l n= .any→AQ (Cd hd l) n= .any
 |[],_,_=>rfl
 | c::_,0,h=>by
   have h:c.v= .any:=h
   simp only[Cd,h,DV.bor,Aw,AK,AQ]
 |_::r,n+1,h=>TU hd r n h
theorem bV(x:Opnd)(d:DS)(n:Nat)(h:AQ d.sl n= .any):AQ (IM x d).2.sl n= .any:=by
 cases x with
 |c v=>exact h
 | t k=>
   simp only[IM,Py];split
   · rename_i ho;split
     · refine TU _ _ _ (TZ _ _ _ _ h ?_);rintro rfl;rw[h] at ho;cases ho
     · exact h
   · exact h
theorem T1:∀ (args:List Opnd) (d:DS) (n:Nat),AQ d.sl n= .any→AQ (Ei args d).sl n= .any
 |[],_,_,h=>h
 |x::r,d,n,h=>T1 r _ n (bV x d n h)
theorem QY:∀ (args:List Opnd) {d:DS} {s:PS},ES d s→(∀ x∈args,x.dev (Ei args d).sl≠.any)→ES (Ei args d) (fzArgs args s)
 |[],_,_,h,_=>h
 | x::r,d,s,h,hk=>by
   refine QY r (gb x h fun n hx hn=>?_) fun y hy=>hk y (List.mem_cons_of_mem _ hy)
   subst hx
   exact hk (.t n) (SE ..) (T1 (.t n::r) d n hn)
theorem Qi{sl:List DC}:∀ {args:List Opnd},Fh (Es sl args)=true→∀ x∈args,x.dev sl≠.any
 |[],_,_,hx=>by cases hx
 | a::r,h,x,hx=>by
   simp only[Es,Fh,Ah] at h
   rcases BR.mp hx with rfl|hx
   · intro e;rw[e] at h;cases h.1
   · exact Qi h.2 x hx
theorem DS.fzArgs_chg:∀ (args:List Opnd) (d:DS),ChgS d (Ei args d)
 |[],d=>ChgS.refl d
 |x::r,d=>(ChgS.fzOut x d).trans (DS.fzArgs_chg r _)
section
variable {E:AExit} {D':DS}
def ML(E:AExit)(D':DS)(K:DS→DT)(k:PS→Prop):Prop:=∀ d s,ES d s→(K d).ok.den→(K d).lf=some (E,D')→k s
theorem gW{D:E0}{p:BV}(hp:HI p D){args:List Opnd}{d d1:DS}{s:PS}{g:PX}{v:DV}{dst:Option Nat}{k:PS→Prop}(hs:ES d s)(h:Jc D args d=some (g,v,d1))(hg:g.den)(hk:∀ s',ES (d1.put dst v) s'→k s'):SD p args dst k s:=by
 unfold Jc at h;simp only at h;split at h
 · rename_i hc;simp only[Ah,C8] at hc;obtain⟨h1,h2⟩:=hc;split at h
   · rename_i g1 v1 hD;split at h
     · rename_i hr;simp only[Ah,C8,B1] at hr;obtain⟨⟨hok,hnp⟩,hdp⟩:=hr;simp only[Ai,Ak] at h;obtain⟨rfl,rfl,rfl⟩:=h;have e:=Su hs args h1;refine⟨by rw[e,Ls,Is,h2],by rw[e];exact NV _ h1,?_⟩;rw[e,Ls,Is,h2];simp only[Aw,AK];rw[OV,← Kb]
       refine hp _ _ _ _ hD hg fun H=>⟨?_,?_⟩
       · rw[NP,hnp,Q5,Lv];rcases hdp with h|h
         · simp[VR _ h]
         · simp[h]
       · rw[NP,hnp];simp only[Aw,AK];exact hk _ (hs.put dst v1)
     · cases h
   · cases h
 · cases h
theorem Vp{D:E0}{args:List Opnd}{d d1:DS}{g:PX}{v:DV}(h:Jc D args d=some (g,v,d1)):d1=d∧Fh (Es d.sl args)=true:=by
 unfold Jc at h;simp only at h;split at h
 · rename_i hc;simp only[Ah] at hc;split at h
   · split at h
     · simp only[Ai,Ak] at h;exact⟨h.2.2.symm,hc.1⟩
     · cases h
   · cases h
 · cases h
theorem S6(q:Ql):∀ es,(PV.sl q es).isH=q.isH'∧∀ j o,(PV.ep q es j o).isH=q.isH':=by
 intro es
 cases q with
 |bor hd p t=>cases hd<;>exact⟨rfl,fun _ _=>rfl⟩
 |pre hd p=>cases hd<;>exact⟨rfl,fun _ _=>rfl⟩
 |_=>exact⟨rfl,fun _ _=>rfl⟩
mutual
theorem VY:∀ (v:DV),v.enc.isH=v.isH
 |.nil q=>(S6 q []).1
 |.sl q r l=>(S6 q _).1
 |.ep q r l j o=>(S6 q _).2 j o
 |.agg cs=>Q7 cs
 |.tup vs=>Q7 vs
 |.any|.undef|.bool _|.int _ _|.str _|.ifc _|.box _ _|.ptr _ _=>rfl
theorem Q7:∀ (l:List DV),PV.isHL (DV.encL l)=DV.isHL l
 |[]=>rfl
 |v::r=>by simp only[DV.encL,PV.isHL,DV.isHL,VY v,Q7 r]
end
theorem EL.clrH:∀ {a:List DC} {b:List PV},EL a b→EL (MD a) (Go.Ag.clrH b)
 |[],[],_=>trivial
 | c :: a,p::b,h=>by
   refine⟨?_,EL.clrH h.2⟩
   by_cases hc:c.v.isH=true
   · rw[Ab hc];exact .inl rfl
   · rw[Ad hc]
     rcases h.1 with h1|h1
     · exact .inl h1
     · rw[h1,VY,Ad hc];exact .inr rfl
theorem EL.all:∀ {a:List DC} {b:List PV},EL a b→DV.okL (Bh a)=true→b=DV.encL (Bh a)
 |[],[],_,_=>rfl
 | c::a,p::b,h,hk=>by
   simp only[Bh,DV.okL,Ah] at hk
   rcases h.1 with h1|h1
   · rw[h1] at hk;cases hk.1
   · simp only[Bh,DV.encL];rw[h1,EL.all h.2 hk.2]
theorem EB.all:∀ {a:List (List DC)} {b:List (List PV)},EB a b→PE (EZ a)=true→b=EU (EZ a)
 |[],[],_,_=>rfl
 | c::a,p::b,h,hk=>by
   simp only[EZ,PE,Ah] at hk
   have hl:0<c.length:=by rw[← Od];exact BS hk.1.1
   simp only[EZ,EU];rw[(h.1.to hl).all hk.1.2,EB.all h.2 hk.2]
theorem EL.mix:∀ (a:List DC) (vs:List DV),EL (Jn a vs) (DV.encL (KQ (Bh a) vs))
 |[],vs=>by simp only[Jn,Bh,KQ];exact EL.news vs
 | c :: a,[]=>by
   have:∀ (a:List DC),EL a (DV.encL (Bh a)):=by
    intro a
    induction a with
    |nil=>exact trivial
    |cons x r ih=>exact⟨.inr rfl,ih⟩
   exact this (c::a)
 | c::a,v::vs=>by
   simp only[Jn,Bh,KQ];refine⟨?_,EL.mix a vs⟩;by_cases h:v.isAny=true
   · rw[Ab h,Ab h];exact .inr rfl
   · rw[Ad h,Ad h];exact .inr rfl
theorem EB.newsB:∀ (vs:List (List DV)),EB (Go.Ag.newsB vs) (EU vs)
 |[]=>trivial
 |v::r=>⟨.inr (EL.news v),EB.newsB r⟩
theorem EB.mix:∀ (a:List (List DC)) (vs:List (List DV)),EB (Jo a vs) (EU (G9 (EZ a) vs))
 |[],vs=>by simp only[Jo,EZ,G9];exact EB.newsB vs
 | c :: a,[]=>by
   have h0:∀ (a:List DC),Jn a []=a:=by intro a;cases a<;>rfl
   have h1:∀ (a:List DC),KQ (Bh a) []=Bh a:=by intro a;cases a<;>rfl
   have:∀ (a:List (List DC)),EB a (EU (EZ a)):=by
    intro a
    induction a with
    |nil=>exact trivial
    | cons x r ih=>
      refine⟨.inr ?_,ih⟩;have:=EL.mix x [];rw[h0,h1] at this;exact this
   exact this (c::a)
 | c::a,v::vs=>by
   simp only[Jo,EZ,G9];exact⟨.inr (EL.mix c v),EB.mix a vs⟩
theorem QH:∀ (a:List (List DV)),(EU a).length=a.length
 |[]=>rfl
 |_::r=>by simp only[EU,A6,QH r]
theorem Vc:∀ (a vs:List (List DV)),a.length≤(G9 a vs).length
 |[],_=>Fl _
 |_::_,[]=>AM _
 |_::a,_::vs=>by simp only[G9,A6];exact Nat.succ_le_succ (Vc a vs)
theorem gv{D:Jg}{p:BV}(hp:Wh p D){args:List Opnd}{d d1:DS}{s:PS}{g:PX}{v:DV}{dst:Option Nat}{k:PS→Prop}(hs:ES d s)(h:I9 D args d=some (g,v,d1))(hg:g.den)(hk:∀ s',ES (d1.put dst v) s'→k s'):Pv p args dst k s:=by
 unfold I9 at h;simp only at h;split at h
 · rename_i hc;simp only[Ah,C8] at hc;obtain⟨⟨h1,h2⟩,h3⟩:=hc;have e:=Su hs args h1;have eh:=hs.hp.all h3
   have hun:((DV.encL (Es d.sl args)).all fun v=>!v.hold)=true:=by rw[Q5,Lv,h2];rfl
   split at h
   · rename_i hpt;split at h
     · rename_i g1 v1 H hD;split at h
       · rename_i hr;simp only[Ah,C8] at hr;simp only[Ai,Ak] at h;obtain⟨rfl,rfl,rfl⟩:=h;refine⟨by rw[e];exact NV _ h1,?_⟩;rw[e,Ls,Is,hpt];simp only[AB];refine⟨hun,?_⟩;rw[OV,← Kb,eh];have hE:ES { d with sl:=MD d.sl,hp:=Jo d.hp H } { s with sl:=Go.Ag.clrH s.sl,hp:=EU (G9 (EZ d.hp) H) }:=⟨hs.sl.clrH,hs.bx,EB.mix d.hp H⟩;refine hp _ _ _ _ _ _ hD hg ⟨?_,by rw[NP];exact hr.2,hk _ (hE.put dst v1)⟩;rw[QH,QH];exact Vc _ _
       · cases h
     · cases h
   · rename_i hpt;split at h
     · rename_i hl;have hl:d.hp=[]:=Dy (by simpa using hl);split at h
       · rename_i g1 v1 H hD;split at h
         · rename_i hr;simp only[Ai,Ak] at h;obtain⟨rfl,rfl,rfl⟩:=h
           have hv:v1= .ptr 0 0:=by
            unfold DV.isP0 at hr;split at hr
            · rfl
            · cases hr
           subst hv
           have hsl:s.hp=[]:=by rw[eh,hl];rfl
           refine⟨by rw[e];exact NV _ h1,?_⟩;rw[e,Ls,Is];rw[Ad (by simpa using hpt)];rw[OV,← Kb]
           have:=hp _ [] _ _ _ (fun r H=>(((!r.hasPtr&&r.deep)||(DV.encL (Es d.sl args)).all fun v=>!v.hold)=true)∧k (PS.put { s with hp:=if r.hasPtr then s.hp++H else s.hp } dst (if r.hasPtr then r.shift s.hp.length else r))) hD hg ⟨by rw[hun];simp,by
            have hE:ES { d with hp:=newsB H } { s with hp:=EU H }:=⟨hs.sl,hs.bx,EB.newsB H⟩;have:=hk _ (hE.put dst (.ptr 0 0))
            simpa [hsl,DV.enc,PV.hasPtr,PV.shift,G9] using this⟩
           exact this
         · cases h
       · cases h
     · cases h
 · cases h
theorem UQ{D:Jg}{args:List Opnd}{d d1:DS}{g:PX}{v:DV}(h:I9 D args d=some (g,v,d1)):ChgS d d1∧Fh (Es d.sl args)=true:=by
 have cH:∀ (l:List DC),Chg l (MD l):=by
  intro l
  induction l with
  |nil=>trivial
  | cons c r ih=>
    refine⟨?_,ih⟩;by_cases hc:c.v.isH=true
    · rw[Ab hc];exact .inl rfl
    · rw[Ad hc];exact .inr rfl
 have cN:∀ (x:List DC) (vs:List DV),Chg x (news vs):=by
  intro x vs
  induction vs generalizing x with
  |nil=>cases x<;>trivial
  | cons v r ih=>cases x with
    |nil=>exact⟨rfl,ih []⟩
    |cons c x=>exact⟨.inl rfl,ih x⟩
 have cM:∀ (a:List DC) (vs:List DV),Chg a (Jn a vs):=by
  intro a
  induction a with
  |nil=>intro vs;exact cN [] vs
  | cons c r ih=>
    intro vs
    cases vs with
    |nil=>exact Chg.refl _
    | cons v vs=>
      refine⟨?_,ih vs⟩;by_cases h:v.isAny=true
      · rw[Ab h];exact .inr rfl
      · rw[Ad h];exact .inl rfl
 have cNB:∀ (x:List (List DC)) (vs:List (List DV)),ChgB x (newsB vs):=by
  intro x vs
  induction vs generalizing x with
  |nil=>cases x<;>trivial
  | cons v r ih=>cases x with
    |nil=>exact⟨cN _ _,ih []⟩
    |cons c x=>exact⟨cN _ _,ih x⟩
 have cMB:∀ (a:List (List DC)) (vs:List (List DV)),ChgB a (Jo a vs):=by
  intro a
  induction a with
  |nil=>intro vs;exact cNB [] vs
  | cons c r ih=>
    intro vs
    cases vs with
    |nil=>exact ChgB.refl _
    |cons v vs=>exact⟨cM c v,ih vs⟩
 unfold I9 at h;simp only at h;split at h
 · rename_i hc;simp only[Ah] at hc;refine⟨?_,hc.1.1⟩;split at h
   · split at h
     · split at h
       · simp only[Ai,Ak] at h;obtain⟨_,_,rfl⟩:=h;exact⟨cH _,ChgB.refl _,cMB _ _⟩
       · cases h
     · cases h
   · split at h
     · split at h
       · split at h
         · simp only[Ai,Ak] at h;obtain⟨_,_,rfl⟩:=h;exact⟨Chg.refl _,ChgB.refl _,cNB _ _⟩
         · cases h
       · cases h
     · cases h
 · cases h
theorem V2{d:DS}{s:PS}(x:Opnd)(hs:ES d s)(hk:x.dev d.sl≠.any)(ho:(x.dev d.sl).own=false):mvOut x s=((x.dev d.sl).enc,s):=by
 cases x with
 |c v=>simp only[mvOut,Opnd.dev];rw[Ol v hk]
 | t n=>
   have:=(hs.sl.get n).of hk;simp only[mvOut,Dj,this,GW,Opnd.dev] at ho ⊢;rw[Ad (by simp[ho])]
theorem OQ{o:DOp}(ho:AllD o.obs){dst:Option Nat}{K:DS→DT}{k:PS→Prop}(hK:ML E D' K k):ML E D' (Cf o dst K) (fun s=>Cl o.er dst k s):=by
 intro d s hs hok hl
 cases o with
 | call m f p D args=>
   simp only[Cf] at hok hl;simp only[DOp.er,Cl]
   cases hc:Jc D args (if m=true then Ei args d else d) with
   |none=>rw[hc] at hok;exact hok.elim
   | some r=>
     obtain⟨g,v,d1⟩:=r;rw[hc] at hok hl;simp only[DT.chk_ok,DT.chk_lf] at hok hl;obtain⟨e1,e2⟩:=Vp hc
     have hs':ES (if m=true then Ei args d else d) (if m=true then fzArgs args s else s):=by
      cases m with
      |false=>exact hs
      |true=>exact QY args hs (Qi e2)
     exact gW ho.1 hs' hc hok.1 fun s' hs'=>hK _ _ hs' hok.2 hl
 | aw ws m o ty=>
   simp only[Cf] at hok hl;simp only[DOp.er,Cl]
   cases hst:IX ws m o ty d with
   |none=>rw[hst] at hok;exact hok.elim
   | some r=>
     obtain⟨g,v,d1⟩:=r;rw[hst] at hok hl;simp only[DT.chk_ok,DT.chk_lf] at hok hl;obtain⟨s',v0,e1,e2,e3⟩:=aY hs hst hok.1;simp only[e1,e2];exact hK _ _ (e3.put dst v) hok.2 hl
 | mark f M x y=>
   simp only[Cf] at hok hl;simp only[DOp.er,Cl]
   cases hst:Ji M x y d with
   |none=>rw[hst] at hok;exact hok.elim
   | some r=>
     obtain⟨g,v,d1⟩:=r;rw[hst] at hok hl;simp only[DT.chk_ok,DT.chk_lf] at hok hl
     exact iZ hs hst hok.1 fun s' hs'=>hK _ _ (hs'.put dst v) hok.2 hl
 | callp m f p D args=>
   simp only[Cf] at hok hl;simp only[DOp.er,Cl]
   cases hc:I9 D args (if m=true then Ei args d else d) with
   |none=>rw[hc] at hok;exact hok.elim
   | some r=>
     obtain⟨g,v,d1⟩:=r;rw[hc] at hok hl;simp only[DT.chk_ok,DT.chk_lf] at hok hl;obtain⟨e1,e2⟩:=UQ hc
     have hs':ES (if m=true then Ei args d else d) (if m=true then fzArgs args s else s):=by
      cases m with
      |false=>exact hs
      |true=>exact QY args hs (Qi e2)
     exact gv ho.1 hs' hc hok.1 fun s' hs'=>hK _ _ hs' hok.2 hl
 | a m o ty=>
   have gen:(match A4 m o ty d with|some (g,v,st)=>DT.chk' g (K (st.put dst v))|none=>DT.bad).ok.den→(match A4 m o ty d with|some (g,v,st)=>DT.chk' g (K (st.put dst v))|none=>DT.bad).lf=some (E,D')→Cl (DOp.a m o ty).er dst k s:=by
    intro hok hl
    cases hst:A4 m o ty d with
    |none=>rw[hst] at hok;exact hok.elim
    | some r=>
      obtain⟨g,v,d1⟩:=r;rw[hst] at hok hl;simp only[DT.chk_ok,DT.chk_lf] at hok hl;obtain⟨s',e1,e2⟩:=T7 hs hst hok.1;simp only[DOp.er,Cl,e1];exact hK _ _ (e2.put dst v) hok.2 hl
   cases o<;>first|exact gen hok hl|skip
   case pick c a b=>
    clear gen;simp only[Cf] at hok hl;have hc:=c.dev_ev hs
    have one:∀ (x:Opnd),(match AE x d with|(v,st)=>if v.ok=true then K (st.put dst v) else DT.bad).ok.den→(match AE x d with|(v,st)=>if v.ok=true then K (st.put dst v) else DT.bad).lf=some (E,D')→k ((mvOut x s).2.put dst (mvOut x s).1):=by
     intro x hok hl;by_cases hv:(AE x d).1.ok=true
     · simp only[Ab hv] at hok hl;obtain⟨m1,m2⟩:=C5 x hs hv;rw[m1];exact hK _ _ (m2.put dst _) hok hl
     · simp only[Ad hv] at hok;exact hok.elim
    cases hcv:c.dev d.sl with
    | bool t=>
      rw[hcv] at hc;have hp:=hc.of (by simp);simp only[DOp.er,Cl,AX,hp,DV.enc]
      cases t with
      | lit t=>
        rw[hcv] at hok hl
        cases t with
        |true=>exact one a hok hl
        |false=>exact one b hok hl
      | dyn t=>
        rw[hcv] at hok hl;simp only at hok hl;split at hok
        · rename_i h;rw[Ab h] at hl;have hok:=(PX.if_den _ _ _).mp hok
          cases t with
          |true=>exact one a (hok.1 rfl) hl
          |false=>exact one b (hok.2 rfl) hl
        · rename_i h;rw[Ad h] at hl;simp only[SL,El,Jh] at h;obtain⟨⟨h1,h2⟩,h3⟩:=h
          have ka:a.dev d.sl≠.any:=by
           intro e;rw[e] at h3;cases hb:b.dev d.sl<;>rw[hb] at h3<;>cases h3
          have kb:b.dev d.sl≠.any:=by
           intro e;rw[e] at h3;cases hb:a.dev d.sl<;>rw[hb] at h3<;>cases h3
          have hm:B5 t (a.dev d.sl) (b.dev d.sl)≠.any:=by intro e;rw[e] at h3;cases h3
          have he:=(OT t (a.dev d.sl) (b.dev d.sl)).resolve_left hm;have:=hK _ _ (hs.put dst (B5 t (a.dev d.sl) (b.dev d.sl))) hok hl;rw[he] at this;simp only[BX.b]
          cases t with
          |true=>simp only[AB,V2 a hs ka h1];exact this
          |false=>simp only[Aw,AK,V2 b hs kb h2];exact this
    |_=>rw[hcv] at hok;exact hok.elim
theorem V5{d:DS}{s:PS}{g:Nat}{b:Bool}(hs:ES d s)(h:Aa s.sl g= .fl (.bool b)):ES (Jq d g b) s:=by
 refine⟨?_,hs.bx,hs.hp⟩
 have:∀ {a:List DC} {l:List PV} (n:Nat),EL a l→Aa l n= .fl (.bool b)→EL (Ce a n (.bool (.lit b))) l:=by
  intro a
  induction a with
  |nil=>intro l n h _;exact h
  | cons c a ih=>
    intro l n h hg
    cases l with
    |nil=>exact h.elim
    | cons p l=>
      cases n with
      |zero=>exact⟨.inr hg,h.2⟩
      |succ n=>exact⟨h.1,ih n h.2 hg⟩
 exact this g hs.sl h
theorem gU{o:DOper}(ho:AllD o.op.obs){K:DS→DT}{k:PS→Prop}(hK:ML E D' K k):ML E D' (KE o K) (fun s=>EX o.er k s):=by
 intro d s hs hok hl
 have skip:∀ {d s},ES d s→(K (d.put o.dst (.tup []))).ok.den→(K (d.put o.dst (.tup []))).lf=some (E,D')→k (s.put o.dst (.tup [])):=fun hs hok hl=>hK _ _ (hs.put o.dst (.tup [])) hok hl
 unfold KE at hok hl;unfold EX;simp only[DOper.er]
 cases hg:o.guard with
 |none=>rw[hg] at hok hl;exact OQ ho hK d s hs hok hl
 | some g=>
   obtain⟨g,want⟩:=g;rw[hg] at hok hl;simp only at hok hl ⊢;have hv:=hs.sl.get g
   cases hgv:AQ d.sl g with
   | bool t=>
     rw[hgv] at hok hl hv;have hp:=hv.of (by simp);simp only[DV.enc] at hp;rw[hp];simp only
     cases t with
     | lit t=>
       simp only at hok hl;by_cases hw:t=want
       · rw[Ab (by simpa using hw)] at hok hl;rw[Ab (show (BX.lit t).b=want from hw)];exact OQ ho hK d s hs hok hl
       · rw[Ad (by simpa using hw)] at hok hl;rw[Ad (show ¬ (BX.lit t).b=want from hw)];exact skip hs hok hl
     | dyn t=>
       simp only[BX.b] at hp ⊢;have hok:=(PX.if_den _ _ _).mp hok;have hs2:=V5 hs hp
       cases t with
       | true=>
         have hok:=hok.1 rfl;simp only[DT.lf] at hl
         cases want with
         |true=>exact OQ ho hK _ s hs2 hok hl
         |false=>exact skip hs2 hok hl
       | false=>
         have hok:=hok.2 rfl;simp only[DT.lf] at hl
         cases want with
         |true=>exact skip hs2 hok hl
         |false=>exact OQ ho hK _ s hs2 hok hl
   | tup vs=>
     cases vs with
     | nil=>
       rw[hgv] at hok hl hv;have hp:=hv.of (by simp);simp only[DV.enc,DV.encL] at hp;rw[hp];exact skip hs hok hl
     |cons v r=>rw[hgv] at hok;exact hok.elim
   |_=>rw[hgv] at hok;exact hok.elim
theorem RY:∀ (ops:List DOper),AllD (OG ops)→∀ {k:PS→Prop},E= .normal→(∀ s,ES D' s→k s)→ML E D' (Gj ops) (fun s=>Gg (ops.map fun o=>o.er) k s)
 | [],_,k,hE,hk=>by
   intro d s hs hok hl
   simp only[Gj,DT.lf,Ai,Ak] at hl
   obtain⟨_,rfl⟩:=hl
   exact hk s hs
 | o::r,ho,k,hE,hk=>by
   obtain⟨h1,h2⟩:=ho.app
   exact gU h1 (RY r h2 hE hk)
end
theorem fv{o:DOp}{dst:Option Nat}{K:DS→DT}{b:DS}(hK:∀ d,ChgS b d→(K d).All (ChgS b)):∀ d,ChgS b d→(Cf o dst K d).All (ChgS b):=by
 intro d hd
 cases o with
 | call m f p D args=>
   simp only[Cf]
   cases hc:Jc D args (if m=true then Ei args d else d) with
   |none=>trivial
   | some r=>
     obtain⟨g,v,d1⟩:=r;obtain⟨rfl,_⟩:=Vp hc;refine DT.chk_all _ (hK _ ((hd.trans ?_).trans (ChgS.put _ _ _)))
     cases m with
     |true=>exact DS.fzArgs_chg args d
     |false=>exact ChgS.refl d
 | aw ws m o ty=>
   simp only[Cf]
   cases hst:IX ws m o ty d with
   |none=>trivial
   | some r=>
     obtain⟨g,v,d1⟩:=r;exact DT.chk_all _ (hK _ ((hd.trans (cu hst)).trans (ChgS.put _ _ _)))
 | mark f M x y=>
   simp only[Cf]
   cases hst:Ji M x y d with
   |none=>trivial
   | some r=>
     obtain⟨g,v,d1⟩:=r;exact DT.chk_all _ (hK _ ((hd.trans (et hst)).trans (ChgS.put _ _ _)))
 | callp m f p D args=>
   simp only[Cf]
   cases hc:I9 D args (if m=true then Ei args d else d) with
   |none=>trivial
   | some r=>
     obtain⟨g,v,d1⟩:=r;obtain⟨h1,_⟩:=UQ hc;refine DT.chk_all _ (hK _ (((hd.trans ?_).trans h1).trans (ChgS.put _ _ _)))
     cases m with
     |true=>exact DS.fzArgs_chg args d
     |false=>exact ChgS.refl d
 | a m o ty=>
   have gen:(match A4 m o ty d with|some (g,v,st)=>DT.chk' g (K (st.put dst v))|none=>DT.bad).All (ChgS b):=by
    cases hst:A4 m o ty d with
    |none=>trivial
    | some r=>
      obtain⟨g,v,d1⟩:=r;exact DT.chk_all _ (hK _ ((hd.trans (UZ hst)).trans (ChgS.put _ _ _)))
   cases o<;>first|exact gen|skip
   case pick c x y=>
    simp only[Cf]
    have one:∀ (x:Opnd),(match AE x d with|(v,st)=>if v.ok=true then K (st.put dst v) else DT.bad).All (ChgS b):=by
     intro x;simp only;split
     · exact hK _ ((hd.trans (ChgS.mvOut x d)).trans (ChgS.put _ _ _))
     · trivial
    cases hcv:c.dev d.sl with
    | bool t=>
      cases t with
      |lit t=>cases t<;>exact one _
      | dyn t=>
        simp only;split
        · exact⟨one x,one y⟩
        · exact hK _ (hd.trans (ChgS.put _ _ _))
    |_=>trivial
theorem QQ(d:DS)(g:Nat)(t:Bool):ChgS d (Jq d g t):=⟨Chg.put _ _ _,ChgB.refl _,ChgB.refl _⟩
theorem eL{o:DOper}{K:DS→DT}{b:DS}(hK:∀ d,ChgS b d→(K d).All (ChgS b)):∀ d,ChgS b d→(KE o K d).All (ChgS b):=by
 intro d hd;unfold KE;have hp:=fv (o:=o.op) (dst:=o.dst) hK
 cases hg:o.guard with
 |none=>exact hp d hd
 | some g=>
   obtain⟨g,want⟩:=g;simp only
   cases hgv:AQ d.sl g with
   | bool t=>
     cases t with
     | lit t=>
       simp only;split
       · exact hp d hd
       · exact hK _ (hd.trans (ChgS.put _ _ _))
     | dyn t=>
       have h1:=hd.trans (QQ d g true);have h2:=hd.trans (QQ d g false)
       cases want with
       |true=>exact⟨hp _ h1,hK _ (h2.trans (ChgS.put _ _ _))⟩
       |false=>exact⟨hK _ (h1.trans (ChgS.put _ _ _)),hp _ h2⟩
   | tup vs=>
     cases vs with
     |nil=>exact hK _ (hd.trans (ChgS.put _ _ _))
     |cons v r=>trivial
   |_=>trivial
theorem Q4{b:DS}:∀ (ops:List DOper) (d:DS),ChgS b d→(Gj ops d).All (ChgS b)
 |[],_,h=>h
 |_::r,d,h=>eL (Q4 r) d h
theorem W6:∀ (ops:List DOper) {d d':DS} {e:AExit},(Gj ops d).lf=some (e,d')→e= .normal:=by
 intro ops
 have pick : ∀ {K:DS→DT} {e:AExit} {d':DS},(∀ d,(K d).lf=some (e,d')→e= .normal)→∀ (o:DOp) (dst:Option Nat) (d:DS),(Cf o dst K d).lf=some (e,d')→e= .normal:=by
  intro K e d' hK o dst d hl
  cases o with
  | call m f p D args=>
    simp only[Cf] at hl;split at hl
    · rw[DT.chk_lf] at hl;exact hK _ hl
    · cases hl
  | aw ws m o ty=>
    simp only[Cf] at hl;split at hl
    · rw[DT.chk_lf] at hl;exact hK _ hl
    · cases hl
  | mark f M x y=>
    simp only[Cf] at hl;split at hl
    · rw[DT.chk_lf] at hl;exact hK _ hl
    · cases hl
  | callp m f p D args=>
    simp only[Cf] at hl;split at hl
    · rw[DT.chk_lf] at hl;exact hK _ hl
    · cases hl
  | a m o ty=>
    have gen:(match A4 m o ty d with|some (g,v,st)=>DT.chk' g (K (st.put dst v))|none=>DT.bad).lf=some (e,d')→e= .normal:=by
     intro hl;split at hl
     · rw[DT.chk_lf] at hl;exact hK _ hl
     · cases hl
    cases o<;>first|exact gen hl|skip
    case pick c x y=>
     simp only[Cf] at hl
     have one:∀ (x:Opnd),(match AE x d with|(v,st)=>if v.ok=true then K (st.put dst v) else DT.bad).lf=some (e,d')→e= .normal:=by
      intro x hl;simp only at hl;split at hl
      · exact hK _ hl
      · cases hl
     cases hcv:c.dev d.sl with
     | bool t=>
       rw[hcv] at hl
       cases t with
       |lit t=>cases t<;>exact one _ hl
       | dyn t=>
         simp only at hl;split at hl
         · cases t<;>exact one _ hl
         · exact hK _ hl
     |_=>rw[hcv] at hl;cases hl
 induction ops with
 | nil=>
   intro d d' e hl;simp only[Gj,DT.lf,Ai,Ak] at hl;exact hl.1.symm
 | cons o r ih=>
   intro d d' e hl
   have hr:∀ d,(Gj r d).lf=some (e,d')→e= .normal:=fun d h=>ih h
   simp only[Gj] at hl;unfold KE at hl
   cases hg:o.guard with
   |none=>rw[hg] at hl;exact pick hr _ _ _ hl
   | some g=>
     obtain⟨g,want⟩:=g;rw[hg] at hl;simp only at hl
     cases hgv:AQ d.sl g with
     | bool t=>
       rw[hgv] at hl
       cases t with
       | lit t=>
         simp only at hl;split at hl
         · exact pick hr _ _ _ hl
         · exact hr _ hl
       | dyn t=>
         cases t<;>cases want<;>first|exact pick hr _ _ _ hl|exact hr _ hl
     | tup vs=>
       rw[hgv] at hl
       cases vs with
       |nil=>exact hr _ hl
       |cons v r=>cases hl
     |_=>rw[hgv] at hl;cases hl
theorem EL.put1{v:DV}:∀ {a:List DC} {b:List PV} (n:Nat),EL a b→EV v (Aa b n)→EL (Ce a n v) b
 |[],_,_,h,_=>h
 |_::_,[],_,h,_=>h.elim
 |_::_,_::_,0,h,hv=>⟨hv,h.2⟩
 |_::_,_::_,n+1,h,hv=>⟨h.1,EL.put1 n h.2 hv⟩
theorem EBx.put1{v:DV}{a:List DC}{b:List PV}(n:Nat)(h:EBx a b)(hv:EV v (Aa b n)):EBx (Ce a n v) b:=by
 rcases h with rfl|h
 · exact .inl rfl
 · exact .inr (h.put1 n hv)
theorem EB.put1{v:List DC}:∀ {a:List (List DC)} {b:List (List PV)} (n:Nat),EB a b→EBx v (Aj b n)→EB (DA a n v) b
 |[],_,_,h,_=>h
 |_::_,[],_,h,_=>h.elim
 |_::_,_::_,0,h,hv=>⟨hv,h.2⟩
 |_::_,_::_,n+1,h,hv=>⟨h.1,EB.put1 n h.2 hv⟩
def PS.at(s:PS):Pl→PV
 |.s i=>Aa s.sl i
 |.b i c=>Aa (Aj s.bx i) c
 |.h i c=>Aa (Aj s.hp i) c
theorem EBx.get{a:List DC}{b:List PV}(n:Nat)(h:EBx a b):EV (AQ a n) (Aa b n):=by
 rcases h with rfl|h
 · exact .inl rfl
 · exact h.get n
theorem ES.at{d:DS}{s:PS}(h:ES d s)(pl:Pl):EV (d.at pl) (s.at pl):=by
 cases pl with
 |s i=>exact h.sl.get i
 |b i c=>exact(h.bx.get i).get c
 |h i c=>exact(h.hp.get i).get c
theorem ES.wr{d:DS}{s:PS}(h:ES d s)(pl:Pl){v:DV}(hv:EV v (s.at pl)):ES (d.wr v pl) s:=by
 cases pl with
 |s i=>exact⟨h.sl.put1 i hv,h.bx,h.hp⟩
 |b i c=>exact⟨h.sl,h.bx.put1 i ((h.bx.get i).put1 c hv),h.hp⟩
 |h i c=>exact⟨h.sl,h.bx,h.hp.put1 i ((h.hp.get i).put1 c hv)⟩
theorem R8{q:Ql}{t:CT}{v:DV}{x:t.D}(h:t.ofQ q v=some x):(t.dv q x).enc=v.enc∧v≠.any:=by
 cases t with
 | int k=>
   cases v<;>try (cases h;done)
   rename_i k' n;have h':(if IntKind.same k k'=true then some n else none)=some x:=h;clear h;split at h'
   · rename_i hk;have:=OK hk;subst this
     have h':=BZ h';subst h';exact⟨rfl,by simp⟩
   · cases h'
 | bool=>
   cases v<;>try (cases h;done)
   have h:=BZ h;subst h;exact⟨rfl,by simp⟩
 | str=>
   cases v<;>try (cases h;done)
   have h:=BZ h;subst h;exact⟨rfl,by simp⟩
 | ifc=>
   cases v<;>try (cases h;done)
   have h:=BZ h;subst h;exact⟨rfl,by simp⟩
 | sl r=>
   cases v<;>try (cases h;done)
   case nil q'=>
    have h':(if CZ q q'=true then some ([]:List r.D) else none)=some x:=h;clear h;split at h'
    · rename_i hq;have:=Ja hq;subst this
      have h':=BZ h';subst h';exact⟨rfl,by simp⟩
    · cases h'
   case sl q' r' l=>
    have h':(if CZ q q'=true then Jd (r':=r') (r:=r) l else none)=some x:=h;clear h;split at h'
    · rename_i hq;have:=Ja hq;subst this
      refine⟨?_,by simp⟩;show PV.sl q _=PV.sl q _;rw[(Ot h').2]
    · cases h'
theorem Xp:∀ {l:List (Ql×CT)} {vs:List DV} {x:AgX l},H4 l vs=some x→DV.encL (KK l x)=DV.encL vs
 |[],[],_,_=>rfl
 | [a],[v],x,h=>by
   show [(a.2.dv a.1 x).enc]=[v.enc]
   rw[(R8 (q:=a.1) (t:=a.2) h).1]
 | a :: b::r,v::vs,x,h=>by
   have h':(match a.2.ofQ a.1 v,H4 (b::r) vs with|some x,some y=>some (x,y)|_,_=>none)=some x:=h
   clear h
   cases h1:a.2.ofQ a.1 v with
   |none=>rw[h1] at h';cases h'
   | some p=>
     cases h2:H4 (b::r) vs with
     |none=>rw[h1,h2] at h';cases h'
     | some q=>
       rw[h1,h2] at h'
       have h':=BZ h'
       subst h'
       show (a.2.dv a.1 p).enc::DV.encL (KK (b::r) q)=v.enc::DV.encL vs
       rw[(R8 h1).1,Xp h2]
theorem Mr{t:HT}{v:DV}{x:t.D}(h:t.of v=some x):(t.dv x).enc=v.enc∧v≠.any:=by
 cases t with
 |one q t=>exact R8 (q:=q) (t:=t) h
 | agg l=>
   cases v<;>try (cases h;done)
   rename_i cs;refine⟨?_,by simp⟩;show PV.agg _=PV.agg _;rw[Xp (l:=l) h]
theorem SO{A:DS}{s:PS}(hA:ES A s):∀ (H:List Hole) {K:DS} {x:E3 H},ES K s→Ib A H=some x→ES (wrX K H x) s
 |[],K,x,hK,_=>hK
 | [a],K,x,hK,h=>by
   have h:a.t.of (A.at a.pl)=some x:=h
   obtain⟨h1,h2⟩:=Mr h
   refine hK.wr a.pl (.inr ?_)
   rw[h1,(hA.at a.pl).of h2]
 | a :: b::r,K,x,hK,h=>by
   have h':(match a.t.of (A.at a.pl),Ib A (b::r) with|some x,some y=>some (x,y)|_,_=>none)=some x:=h
   clear h
   cases h1:a.t.of (A.at a.pl) with
   |none=>rw[h1] at h';cases h'
   | some p=>
     cases h2:Ib A (b::r) with
     |none=>rw[h1,h2] at h';cases h'
     | some q=>
       rw[h1,h2] at h'
       have h':=BZ h'
       subst h'
       obtain⟨h3,h4⟩:=Mr h1
       refine SO hA (b::r) (x:=q) (hK.wr a.pl (.inr ?_)) h2
       rw[h3,(hA.at a.pl).of h4]
theorem WW(d:DS)(v:DV)(pl:Pl):ChgS d (d.wr v pl):=by
 cases pl with
 |s i=>exact⟨Chg.put _ _ _,ChgB.refl _,ChgB.refl _⟩
 |b i c=>exact⟨Chg.refl _,ChgB.put _ _ (Chg.put _ _ _),ChgB.refl _⟩
 |h i c=>exact⟨Chg.refl _,ChgB.refl _,ChgB.put _ _ (Chg.put _ _ _)⟩
theorem Wy:∀ (H:List Hole) (d:DS) (x:E3 H),ChgS d (wrX d H x)
 |[],d,_=>ChgS.refl d
 |[a],d,_=>WW d _ _
 |a::b::r,d,x=>(WW d _ _).trans (Wy (b::r) _ _)
def LeC:List DC→List DC→Prop
 |[],[]=>True
 |k::a,b::r=>(k.v= .any∨k.v=b.v)∧LeC a r
 |_,_=>False
def LeB:List (List DC)→List (List DC)→Prop
 |[],[]=>True
 |k::a,b::r=>(k=[]∨LeC k b)∧LeB a r
 |_,_=>False
structure LeS (k b:DS):Prop where
 sl:LeC k.sl b.sl
 bx:LeB k.bx b.bx
 hp:LeB k.hp b.hp
theorem LeC.refl:∀ (k:List DC),LeC k k
 |[]=>trivial
 |_::r=>⟨.inr rfl,LeC.refl r⟩
theorem LeB.refl:∀ (k:List (List DC)),LeB k k
 |[]=>trivial
 |k::r=>⟨.inr (LeC.refl k),LeB.refl r⟩
theorem LeC.put{v:DV}:∀ {k b:List DC} (n:Nat),LeC k b→AQ k n= .any→LeC k (Ce b n v)
 |[],[],_,h,_=>h
 |[],_::_,_,h,_=>h.elim
 |_::_,[],_,h,_=>h.elim
 |_::_,_::_,0,h,ha=>⟨.inl ha,h.2⟩
 |_::_,_::_,n+1,h,ha=>⟨h.1,LeC.put n h.2 ha⟩
theorem LeB.put{v:DV}:∀ {k b:List (List DC)} (i c:Nat),LeB k b→AQ (A7 k i) c= .any→LeB k (DA b i (Ce (A7 b i) c v))
 |[],[],_,_,h,_=>h
 |[],_::_,_,_,h,_=>h.elim
 |_::_,[],_,_,h,_=>h.elim
 |_::_,_::_,0,c,h,ha=>⟨h.1.imp id fun h=>h.put c ha,h.2⟩
 |_::_,_::_,n+1,c,h,ha=>⟨h.1,LeB.put n c h.2 ha⟩
theorem Vo{v:DV}(h:v.isAny=true):v= .any:=by cases v<;>first|rfl|cases h
theorem LeS.wr{k b:DS}{v:DV}{pl:Pl}(h:LeS k b)(ha:(k.at pl).isAny=true):LeS k (b.wr v pl):=by
 have ha:=Vo ha
 cases pl with
 |s i=>exact⟨h.sl.put i ha,h.bx,h.hp⟩
 |b i c=>exact⟨h.sl,h.bx.put i c ha,h.hp⟩
 |h i c=>exact⟨h.sl,h.bx,h.hp.put i c ha⟩
theorem LeS.wrX{k:DS}:∀ (H:List Hole) {b:DS} (x:E3 H),LeS k b→J6 k H=true→LeS k (Go.Ag.wrX b H x)
 |[],_,_,h,_=>h
 | [a],_,_,h,ha=>by
   simp only[J6,Ah] at ha;exact h.wr ha.1
 | a :: b::r,_,x,h,ha=>by
   have ha':(k.at a.pl).isAny=true∧J6 k (b::r)=true:=by
    have:((k.at a.pl).isAny&&J6 k (b::r))=true:=ha;simpa [Ah] using this
   exact LeS.wrX (b::r) _ (h.wr ha'.1) ha'.2
theorem fP{a b:DV}(h:a.same b=true):a.enc=b.enc∧b≠.any:=by
 cases a<;>cases b<;>first|(cases h;done)|skip
 case undef.undef=>exact⟨rfl,by simp⟩
 case nil.nil q q'=>have:=Ja h;subst this;exact⟨rfl,by simp⟩
 case box.box=>simp only[DV.same,Ah,AA] at h;obtain⟨rfl,rfl⟩:=h;exact⟨rfl,by simp⟩
 case ptr.ptr=>simp only[DV.same,Ah,AA] at h;obtain⟨rfl,rfl⟩:=h;exact⟨rfl,by simp⟩
theorem Sv:∀ {k b y:List DC} {p:List PV},MM k y=true→LeC k b→Chg (Go.Ag.clean b) y→EL y p→EL k p
 |[],_,[],p,_,_,_,h=>h
 |[],_,_::_,_,h,_,_,_=>by cases h
 |_::_,_,[],_,h,_,_,_=>by cases h
 |_::_,[],_::_,_,_,h,_,_=>h.elim
 |_::_,_::_,_::_,[],_,_,_,h=>h.elim
 | k :: a,b::r,y::l,q::p,h,hl,hc,he=>by
   simp only[MM,Ah,B1] at h;refine⟨?_,Sv h.2 hl.2 hc.2 he.2⟩;rcases h.1 with(h1|h1)|h1
   · exact .inl (Vo h1)
   · rcases hl.1 with h2|h2
     · exact .inl h2
     · rcases hc.1 with h3|h3
       · simp[h3] at h1
       · have:y.v=k.v:=by rw[h3,h2]
         rcases he.1 with h4|h4
         · exact .inl (by rw[← this];exact h4)
         · exact .inr (by rw[← this];exact h4)
   · obtain⟨h2,h3⟩:=fP h1;rcases he.1 with h4|h4
     · exact absurd h4 h3
     · exact .inr (by rw[h2];exact h4)
theorem Sf:∀ {k b y:List (List DC)} {p:List (List PV)},MK k y=true→LeB k b→ChgB (Kt b) y→EB y p→EB k p
 |[],_,[],p,_,_,_,h=>h
 |[],_,_::_,_,h,_,_,_=>by cases h
 |_::_,_,[],_,h,_,_,_=>by cases h
 |_::_,[],_::_,_,_,h,_,_=>h.elim
 |_::_,_::_,_::_,[],_,_,_,h=>h.elim
 | k :: a,b::r,y::l,q::p,h,hl,hc,he=>by
   simp only[MK,Ah,B1,AA] at h
   refine⟨?_,Sf h.2 hl.2 hc.2 he.2⟩
   rcases h.1 with h1|h1
   · exact .inl (Dy h1)
   · rcases hl.1 with h2|h2
     · exact .inl h2
     · rcases he.1 with h3|h3
       · subst h3
         cases k with
         |nil=>exact .inl rfl
         |cons=>cases h1
       · exact .inr (Sv h1 h2 hc.1 h3)
theorem jK{k b y:DS}{s:PS}(h:Tb k y=true)(hl:LeS k b)(hc:ChgS b.clean y)(he:ES y s):ES k s:=by
 simp only[Tb,Ah] at h;exact⟨Sv h.1.1 hl.sl hc.sl he.sl,Sf h.1.2 hl.bx hc.bx he.bx,Sf h.2 hl.hp hc.hp he.hp⟩
theorem Sb(pl:Nat→Pl):∀ (n:Nat) (x y:List DC),Chg x (Hc pl n x y).2∧∀ p,EL x p→EL (Hc pl n x y).2 p
 |_,[],_=>⟨trivial,fun _ h=>h⟩
 |_,_::_,[]=>⟨Chg.refl _,fun _ h=>h⟩
 | n,x::a,y::b=>by
   obtain⟨h1,h2⟩:=Sb pl (n+1) a b
   simp only[Hc]
   cases hr:Hc pl (n+1) a b with
   | mk H l=>
     rw[hr] at h1 h2
     cases XI x.v y with
     |left=>exact⟨⟨.inr rfl,h1⟩,fun p h=>by cases p with|nil=>exact h|cons q p=>exact⟨h.1,h2 p h.2⟩⟩
     |hole t=>exact⟨⟨.inl rfl,h1⟩,fun p h=>by cases p with|nil=>exact h|cons q p=>exact⟨.inl rfl,h2 p h.2⟩⟩
     |kill=>exact⟨⟨.inl rfl,h1⟩,fun p h=>by cases p with|nil=>exact h|cons q p=>exact⟨.inl rfl,h2 p h.2⟩⟩
theorem SA(pl:Nat→Nat→Pl):∀ (n:Nat) (x y:List (List DC)),ChgB x (Jr pl n x y).2∧∀ p,EB x p→EB (Jr pl n x y).2 p
 |_,[],_=>⟨trivial,fun _ h=>h⟩
 |_,_::_,[]=>⟨ChgB.refl _,fun _ h=>h⟩
 | n, x :: a,y::b=>by
   obtain⟨h1,h2⟩:=SA pl (n+1) a b
   simp only[Jr]
   cases hr:Jr pl (n+1) a b with
   | mk H l=>
     rw[hr] at h1 h2
     simp only
     split
     · obtain⟨h3,h4⟩:=Sb (pl n) 0 x y
       cases hc:Hc (pl n) 0 x y with
       | mk H' x'=>
         rw[hc] at h3 h4
         exact⟨⟨h3,h1⟩,fun p h=>by
          cases p with
          |nil=>exact h
          |cons q p=>exact⟨h.1.elim (fun e=>by subst e;cases y<;>(simp only[Hc] at hc;simp only[Ak] at hc;exact .inl hc.2.symm)) fun h=>.inr (h4 q h),h2 p h.2⟩⟩
     · exact⟨⟨by cases x<;>trivial,h1⟩,fun p h=>by cases p with|nil=>exact h|cons q p=>exact⟨.inl rfl,h2 p h.2⟩⟩
theorem WC(x y:DS):ChgS x (MT x y).2∧∀ s,ES x s→ES (MT x y).2 s:=by
 obtain⟨h1,h2⟩:=Sb .s 0 x.sl y.sl;obtain⟨h3,h4⟩:=SA .b 0 x.bx y.bx;obtain⟨h5,h6⟩:=SA .h 0 x.hp y.hp;exact⟨⟨h1,h3,h5⟩,fun s h=>⟨h2 _ h.sl,h4 _ h.bx,h6 _ h.hp⟩⟩
theorem RH{live:List Nat}{body:DS→DT}{A:DS}:∀ {n:Nat} {cur:DS} {H:List Hole} {K:DS},Mo live body A n cur=some (H,K)→∃ Y,MT A Y=(H,K)
 | 0,cur,H,K,h=>by
   simp only[Mo] at h
   split at h
   · rename_i m _
     exact⟨_,BZ h⟩
   · cases h
 | n + 1,cur,H,K,h=>by
   simp only[Mo] at h
   split at h
   · split at h
     · exact RH h
     · cases h
   · cases h
theorem QB(live:List Nat)(d:DS):ChgS d (CA live d):=⟨Chg.keep _ _ _,ChgB.refl _,ChgB.refl _⟩
theorem dH(live:List Nat)(d:DS):ChgS d (Pp live d):=⟨Chg.trim _ _ _,ChgB.refl _,ChgB.refl _⟩
theorem gR {live:List Nat} {n:Nat} {body:DS→DT} {pb:DY→PS→Prop} (hall:∀ d,(body d).All (ChgS d.clean))
 (hb:∀ d s e d' (k:DY),ES d s→(body d).ok.den→(body d).lf=some (e,d')→(∀ s',ES d' s'→k e s')→pb k s)
 {d d':DS} {s:PS} {e:AExit} {k:DY} (hs:ES d s) (hok:(KH live n body d).ok.den) (hl:(KH live n body d).lf=some (e,d')) (hk:∀ s',ES d' s'→k e s'):∃ n,Mz pb live k n s:=by
 have hA:ES (CA live d) { s with sl:=CX live 0 s.sl }:=hs.keep live
 unfold KH at hok hl
 split at hok
 · rename_i hn
   rw[Ab hn] at hl;rw[DT.map_ok] at hok;rw[DT.map_lf] at hl;obtain⟨e0,d0,h0⟩:=DT.ok_lf hok;rw[h0] at hl;simp only[BB,Ai,Ak] at hl;obtain⟨rfl,rfl⟩:=hl
   have hn:(body (CA live d)).norm= .none:=by cases h:(body (CA live d)).norm<;>rw[h] at hn<;>first|rfl|cases hn
   have he:=DT.norm_none hn h0;refine⟨1,hb _ _ _ _ _ hA hok h0 fun s' hs'=>?_⟩
   cases e0<;>first|(cases he;done)|exact hk _ hs'.rem
 · rename_i hn
   rw[Ad hn] at hl;split at hok
   · exact hok.elim
   · rename_i H K hd;rw[hd] at hl;simp only at hl;obtain⟨Y,hY⟩:=RH hd;split at hok
     · exact hok.elim
     · rename_i x0 hx0;rw[hx0] at hl;simp only at hl;split at hok
       · rename_i hh;rw[Ab hh] at hl;simp only[DT.ok,PX.land_den,PX.den] at hok;obtain⟨hlo,_⟩:=hok;simp only[DT.lf] at hl
         have hK:ES K { s with sl:=CX live 0 s.sl }:=by
          have:=(WC (CA live d) Y).2 _ hA;rw[hY] at this;exact this
         have h0:ES (wrX K H x0) { s with sl:=CX live 0 s.sl }:=SO hA H hK hx0;have hto:=hlo.to
         have hle:∀ x,LeS K (wrX K H x):=fun x=>LeS.wrX H x ⟨LeC.refl _,LeB.refl _,LeB.refl _⟩ hh
         have main:∀ {x y:E3 H},LoopTo (KD body K H) (Ky live body K H) (fun x=>(Xr live body K H x).den) x y →
          ((lT body K H y).drop.map (H8 (wrX K H y))).lf=some (e,d') →
          ∃ n,∀ s:PS,ES (wrX K H x) { s with sl:=CX live 0 s.sl }→Mz pb live k n s:=by
          intro x y h
          induction h with
          | stop hg hc=>
            rename_i x;intro hl;have hg:=((PX.land_den _ _).mp hg).1;obtain⟨e0,d0,h0⟩:=DT.ok_lf hg
            have he:e0.isN=false:=by
             unfold KD at hc
             cases hcc:(lT body K H x).cont with
             |none=>rw[DT.cont_none hcc] at h0;cases h0
             |some b=>rw[hcc] at hc;rw[← DT.cont_s hcc h0];exact hc
            rw[DT.map_lf,DT.drop_lf h0 he] at hl;simp only[BB,Ai,Ak] at hl;obtain⟨rfl,rfl⟩:=hl;refine⟨1,fun s hs=>hb _ _ _ _ _ hs hg h0 fun s' hs'=>?_⟩
            cases e0<;>first|(cases he;done)|exact hk _ hs'.rem
          | go hg hc h3 ih=>
            rename_i x y';intro hl;obtain⟨n,ih⟩:=ih hl;have hg2:=(PX.land_den _ _).mp hg;obtain⟨e0,d0,h0⟩:=DT.ok_lf hg2.1
            have he:e0= .normal:=by
             unfold KD at hc
             cases hcc:(lT body K H x).cont with
             |none=>rw[DT.cont_none hcc] at h0;cases h0
             | some b=>
               rw[hcc] at hc;have:=DT.cont_s hcc h0;rw[show b.b=true from hc] at this
               cases e0<;>first|rfl|cases this
            subst he;refine⟨n+1,fun s hs=>hb _ _ _ _ _ hs hg2.1 h0 fun s' hs'=>?_⟩;refine ih s' ?_;have hg3:=hg2.2
            cases hnm:(lT body K H x).norm with
            |none=>have:=DT.norm_none hnm h0;cases this
            |fail=>rw[hnm] at hg3;exact hg3.elim
            | some m=>
              rw[hnm] at hg3;simp only at hg3;split at hg3
              · rename_i hf;simp only[Ah] at hf;obtain⟨hf1,hf2⟩:=hf;have hm:ES m s':=DT.norm_s (hall _) hnm h0 hs';have hm2:=hm.keep live;have hch:ChgS (wrX K H x).clean (CA live m):=(DT.norm_chg (hall _) hnm).trans (QB live m);have hK':=jK hf1 (hle x) hch hm2;obtain⟨y2,hy2⟩:=Option.isSome_iff_exists.mp hf2
                have hnx:Ky live body K H x=y2:=by unfold Ky;rw[hnm];simp only[hy2]
                rw[hnx];exact SO hm2 H hK' hy2
              · exact hg3.elim
         obtain⟨n,hn⟩:=main hto hl;exact⟨n,hn s h0⟩
       · exact hok.elim
theorem dO{live:List Nat}{n:Nat}{body:DS→DT}(hall:∀ d,(body d).All (ChgS d.clean))(d:DS):(KH live n body d).All (ChgS d):=by
 unfold KH;split
 · exact DT.map_all (fun st h=>(QB live d).trans h.rem) (hall _)
 · split
   · trivial
   · rename_i H K hd;obtain⟨Y,hY⟩:=RH hd;split
     · trivial
     · split
       · have hK:ChgS d K:=by
          have:=(WC (CA live d) Y).1;rw[hY] at this;exact(QB live d).trans this
         exact DT.map_all (fun st h=>(hK.trans (Wy H K _)).trans h.rem) (DT.drop_all (hall _))
       · trivial
end
end Go.Ag
