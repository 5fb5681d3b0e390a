/- Part 4 of what FnKeymaps needs. No conditions. -/
import Derived.Test.YtijikmakanpmlaaGreatDoorLibC
namespace Go.Ag
set_option linter.unusedSimpArgs false
set_option linter.unusedVariables false
noncomputable section
noncomputable section
def shut.{u}{α:Sort u}(a:α):{x:α // x=a}:=Classical.choice ⟨⟨a,rfl⟩⟩
section
variable {α:Type}
def wi(k:IntKind)(a b:Int):Int:=k.wrap (a+b)
def wS(k:IntKind)(a b:Int):Int:=k.wrap (a-b)
def wR(k:IntKind)(a b:Int):Int:=k.wrap (a*b)
def wN(k:IntKind)(a b:Int):Int:=k.wrap (a.tdiv b)
def wo(a b:Int):Int:=a.tmod b
def wK(k:IntKind)(a b:Int):Int:=k.wrap (BitVec.ofInt k.bits a &&& BitVec.ofInt k.bits b).toNat
def w5(k:IntKind)(a b:Int):Int:=k.wrap (BitVec.ofInt k.bits a ||| BitVec.ofInt k.bits b).toNat
def wO(k:IntKind)(a b:Int):Int:=k.wrap (BitVec.ofInt k.bits a ^^^ BitVec.ofInt k.bits b).toNat
def sF(k:IntKind)(a b:Int):Int:=k.wrap (BitVec.ofInt k.bits a &&& ~~~BitVec.ofInt k.bits b).toNat
def wA(k:IntKind)(a b:Int):Int:=k.wrap (a*2^min b.toNat k.bits)
def wz(k:IntKind)(a b:Int):Int:=a.fdiv (2^min b.toNat k.bits)
def wW(k:IntKind)(a:Int):Int:=k.wrap (0-a)
def vL(k:IntKind)(a:Int):Int:=k.wrap a
def wV(a b:Int):Int:=if b<a then b else a
def wg(a b:Int):Int:=if b > a then b else a
def wD(a:Int):Nat:=a.toNat
def xh(a b:Int):Bool:=a == b
def xe(a b:Int):Bool:=a != b
def w6(a b:Int):Bool:=decide (a<b)
def xb(a b:Int):Bool:=decide (a≤b)
def w9(a b:Int):Bool:=decide (a > b)
def w4(a b:Int):Bool:=decide (a≥b)
def wx(a b:List UInt8):List UInt8:=a++b
def xf(a b:List UInt8):Bool:=a == b
def w8(a b:List UInt8):Bool:=!(a == b)
def wh(s:List UInt8)(j:Int):Int:=(s.getD j.toNat 0).toNat
def v7(s:List UInt8):List Int:=s.map fun b=>((b.toNat:Nat):Int)
def wL(l:List Int):List UInt8:=l.map fun n=>UInt8.ofNat n.toNat
def vZ(l:List α):Int:=l.length
def xi(l:List α):Nat:=l.length
def wP(l:List α)(j:Nat)(d:α):α:=l.getD j d
def wj(l:List α)(j:Nat)(x:α):List α:=l.set j x
def wI(l:List α)(a b:Nat):List α:=(l.drop a).take (b-a)
def vx(l:List α)(n:Nat):List α:=l.take n
def wM(l m:List α):List α:=l++m
def wY(n:Int)(x:α):List α:=List.replicate n.toNat x
def wm(a:Bool):Bool:=!a
def wZ(a b:Bool):Bool:=a&&b
def xg(a b:Bool):Bool:=a||b
def wB(a b:Bool):Bool:=a == b
def wv(c:Bool)(x y:α):α:=bif c then x else y
end
structure Leaf where
 iAdd:∀ (k:IntKind) (a b:Int),Int
 iSub:∀ (k:IntKind) (a b:Int),Int
 iMul:∀ (k:IntKind) (a b:Int),Int
 iQuo:∀ (k:IntKind) (a b:Int),Int
 iRem:∀ (a b:Int),Int
 iAnd:∀ (k:IntKind) (a b:Int),Int
 iOr:∀ (k:IntKind) (a b:Int),Int
 iXor:∀ (k:IntKind) (a b:Int),Int
 iAndNot:∀ (k:IntKind) (a b:Int),Int
 iShl:∀ (k:IntKind) (a b:Int),Int
 iShr:∀ (k:IntKind) (a b:Int),Int
 iNeg:∀ (k:IntKind) (a:Int),Int
 iConv:∀ (k:IntKind) (a:Int),Int
 iMin:∀ (a b:Int),Int
 iMax:∀ (a b:Int),Int
 iNat:∀ (a:Int),Nat
 iEq:∀ (a b:Int),Bool
 iNe:∀ (a b:Int),Bool
 iLt:∀ (a b:Int),Bool
 iLe:∀ (a b:Int),Bool
 iGt:∀ (a b:Int),Bool
 iGe:∀ (a b:Int),Bool
 sAdd:∀ (a b:List UInt8),List UInt8
 sEq:∀ (a b:List UInt8),Bool
 sNe:∀ (a b:List UInt8),Bool
 sGet:∀ (s:List UInt8) (j:Int),Int
 sRow:∀ (s:List UInt8),List Int
 rowS:∀ (l:List Int),List UInt8
 lLen:∀ {α:Type} (l:List α),Int
 lN:∀ {α:Type} (l:List α),Nat
 lGet:∀ {α:Type} (l:List α) (j:Nat) (d:α),α
 lSet:∀ {α:Type} (l:List α) (j:Nat) (x:α),List α
 lSub:∀ {α:Type} (l:List α) (a b:Nat),List α
 lTake:∀ {α:Type} (l:List α) (n:Nat),List α
 lApp:∀ {α:Type} (l m:List α),List α
 lRep:∀ {α:Type} (n:Int) (x:α),List α
 bNot:∀ (a:Bool),Bool
 bAnd:∀ (a b:Bool),Bool
 bOr:∀ (a b:Bool),Bool
 bIff:∀ (a b:Bool),Bool
 bSel:∀ {α:Type} (c:Bool) (x y:α),α
def jo:Leaf:=⟨@wi,@wS,@wR,@wN,@wo,@wK,@w5,@wO,@sF,@wA,@wz,@wW,@vL,@wV,@wg,@wD,@xh,@xe,@w6,@xb,@w9,@w4,@wx,@xf,@w8,@wh,@v7,@wL,@vZ,@xi,@wP,@wj,@wI,@vx,@wM,@wY,@wm,@wZ,@xg,@wB,@wv⟩
def Az:{l:Leaf // l=jo}:=Classical.choice ⟨⟨jo,rfl⟩⟩
section
variable {α:Type}
@[irreducible] def iAdd(k:IntKind)(a b:Int):Int:=Az.1.iAdd k a b
theorem iN(k:IntKind)(a b:Int):iAdd k a b=(k.wrap (a+b)):=by unfold iAdd;rw[Az.2];rfl
@[irreducible] def iSub(k:IntKind)(a b:Int):Int:=Az.1.iSub k a b
theorem ig(k:IntKind)(a b:Int):iSub k a b=(k.wrap (a-b)):=by unfold iSub;rw[Az.2];rfl
@[irreducible] def iMul(k:IntKind)(a b:Int):Int:=Az.1.iMul k a b
theorem iW(k:IntKind)(a b:Int):iMul k a b=(k.wrap (a*b)):=by unfold iMul;rw[Az.2];rfl
@[irreducible] def iQuo(k:IntKind)(a b:Int):Int:=Az.1.iQuo k a b
theorem X7(k:IntKind)(a b:Int):iQuo k a b=(k.wrap (a.tdiv b)):=by unfold iQuo;rw[Az.2];rfl
@[irreducible] def iRem(a b:Int):Int:=Az.1.iRem a b
theorem X4(a b:Int):iRem a b=(a.tmod b):=by unfold iRem;rw[Az.2];rfl
@[irreducible] def iAnd(k:IntKind)(a b:Int):Int:=Az.1.iAnd k a b
theorem Yi(k:IntKind)(a b:Int):iAnd k a b=(k.wrap (BitVec.ofInt k.bits a &&& BitVec.ofInt k.bits b).toNat):=by unfold iAnd;rw[Az.2];rfl
@[irreducible] def iOr(k:IntKind)(a b:Int):Int:=Az.1.iOr k a b
theorem we(k:IntKind)(a b:Int):iOr k a b=(k.wrap (BitVec.ofInt k.bits a ||| BitVec.ofInt k.bits b).toNat):=by unfold iOr;rw[Az.2];rfl
@[irreducible] def iXor(k:IntKind)(a b:Int):Int:=Az.1.iXor k a b
theorem vR(k:IntKind)(a b:Int):iXor k a b=(k.wrap (BitVec.ofInt k.bits a ^^^ BitVec.ofInt k.bits b).toNat):=by unfold iXor;rw[Az.2];rfl
@[irreducible] def iAndNot(k:IntKind)(a b:Int):Int:=Az.1.iAndNot k a b
theorem q8(k:IntKind)(a b:Int):iAndNot k a b=(k.wrap (BitVec.ofInt k.bits a &&& ~~~BitVec.ofInt k.bits b).toNat):=by unfold iAndNot;rw[Az.2];rfl
@[irreducible] def iShl(k:IntKind)(a b:Int):Int:=Az.1.iShl k a b
theorem vN(k:IntKind)(a b:Int):iShl k a b=(k.wrap (a*2^min b.toNat k.bits)):=by unfold iShl;rw[Az.2];rfl
@[irreducible] def iShr(k:IntKind)(a b:Int):Int:=Az.1.iShr k a b
theorem iE(k:IntKind)(a b:Int):iShr k a b=(a.fdiv (2^min b.toNat k.bits)):=by unfold iShr;rw[Az.2];rfl
@[irreducible] def iNeg(k:IntKind)(a:Int):Int:=Az.1.iNeg k a
theorem ie(k:IntKind)(a:Int):iNeg k a=(k.wrap (0-a)):=by unfold iNeg;rw[Az.2];rfl
@[irreducible] def iConv(k:IntKind)(a:Int):Int:=Az.1.iConv k a
theorem Ud(k:IntKind)(a:Int):iConv k a=(k.wrap a):=by unfold iConv;rw[Az.2];rfl
@[irreducible] def iMin(a b:Int):Int:=Az.1.iMin a b
theorem vO(a b:Int):iMin a b=(if b<a then b else a):=by unfold iMin;rw[Az.2];rfl
@[irreducible] def iMax(a b:Int):Int:=Az.1.iMax a b
theorem Yh(a b:Int):iMax a b=(if b > a then b else a):=by unfold iMax;rw[Az.2];rfl
@[irreducible] def iNat(a:Int):Nat:=Az.1.iNat a
theorem X5(a:Int):iNat a=(a.toNat):=by unfold iNat;rw[Az.2];rfl
@[irreducible] def iEq(a b:Int):Bool:=Az.1.iEq a b
theorem UM(a b:Int):iEq a b=(a == b):=by unfold iEq;rw[Az.2];rfl
@[irreducible] def iNe(a b:Int):Bool:=Az.1.iNe a b
theorem jd(a b:Int):iNe a b=(a != b):=by unfold iNe;rw[Az.2];rfl
@[irreducible] def iLt(a b:Int):Bool:=Az.1.iLt a b
theorem jg(a b:Int):iLt a b=(decide (a<b)):=by unfold iLt;rw[Az.2];rfl
@[irreducible] def iLe(a b:Int):Bool:=Az.1.iLe a b
theorem jn(a b:Int):iLe a b=(decide (a≤b)):=by unfold iLe;rw[Az.2];rfl
@[irreducible] def iGt(a b:Int):Bool:=Az.1.iGt a b
theorem iY(a b:Int):iGt a b=(decide (a > b)):=by unfold iGt;rw[Az.2];rfl
@[irreducible] def iGe(a b:Int):Bool:=Az.1.iGe a b
theorem jk(a b:Int):iGe a b=(decide (a≥b)):=by unfold iGe;rw[Az.2];rfl
@[irreducible] def sAdd(a b:List UInt8):List UInt8:=Az.1.sAdd a b
theorem iS(a b:List UInt8):sAdd a b=(a++b):=by unfold sAdd;rw[Az.2];rfl
@[irreducible] def sEq(a b:List UInt8):Bool:=Az.1.sEq a b
theorem jh(a b:List UInt8):sEq a b=(a == b):=by unfold sEq;rw[Az.2];rfl
@[irreducible] def sNe(a b:List UInt8):Bool:=Az.1.sNe a b
theorem jb(a b:List UInt8):sNe a b=(!(a == b)):=by unfold sNe;rw[Az.2];rfl
@[irreducible] def sGet(s:List UInt8)(j:Int):Int:=Az.1.sGet s j
theorem iJ(s:List UInt8)(j:Int):sGet s j=((s.getD j.toNat 0).toNat):=by unfold sGet;rw[Az.2];rfl
@[irreducible] def sRow(s:List UInt8):List Int:=Az.1.sRow s
theorem iH(s:List UInt8):sRow s=(s.map fun b=>((b.toNat:Nat):Int)):=by unfold sRow;rw[Az.2];rfl
@[irreducible] def rowS(l:List Int):List UInt8:=Az.1.rowS l
theorem iI(l:List Int):rowS l=(l.map fun n=>UInt8.ofNat n.toNat):=by unfold rowS;rw[Az.2];rfl
@[irreducible] def lLen(l:List α):Int:=Az.1.lLen l
theorem Yu(l:List α):lLen l=(l.length):=by unfold lLen;rw[Az.2];rfl
@[irreducible] def lN(l:List α):Nat:=Az.1.lN l
theorem Re(l:List α):lN l=(l.length):=by unfold lN;rw[Az.2];rfl
@[irreducible] def lGet(l:List α)(j:Nat)(d:α):α:=Az.1.lGet l j d
theorem N5(l:List α)(j:Nat)(d:α):lGet l j d=(l.getD j d):=by unfold lGet;rw[Az.2];rfl
@[irreducible] def lSet(l:List α)(j:Nat)(x:α):List α:=Az.1.lSet l j x
theorem QA(l:List α)(j:Nat)(x:α):lSet l j x=(l.set j x):=by unfold lSet;rw[Az.2];rfl
@[irreducible] def lSub(l:List α)(a b:Nat):List α:=Az.1.lSub l a b
theorem Yv(l:List α)(a b:Nat):lSub l a b=((l.drop a).take (b-a)):=by unfold lSub;rw[Az.2];rfl
@[irreducible] def lTake(l:List α)(n:Nat):List α:=Az.1.lTake l n
theorem XM(l:List α)(n:Nat):lTake l n=(l.take n):=by unfold lTake;rw[Az.2];rfl
@[irreducible] def lApp(l m:List α):List α:=Az.1.lApp l m
theorem L4(l m:List α):lApp l m=(l++m):=by unfold lApp;rw[Az.2];rfl
@[irreducible] def lRep(n:Int)(x:α):List α:=Az.1.lRep n x
theorem iD(n:Int)(x:α):lRep n x=(List.replicate n.toNat x):=by unfold lRep;rw[Az.2];rfl
@[irreducible] def bNot(a:Bool):Bool:=Az.1.bNot a
theorem N6(a:Bool):bNot a=(!a):=by unfold bNot;rw[Az.2];rfl
@[irreducible] def bAnd(a b:Bool):Bool:=Az.1.bAnd a b
theorem Yp(a b:Bool):bAnd a b=(a&&b):=by unfold bAnd;rw[Az.2];rfl
@[irreducible] def bOr(a b:Bool):Bool:=Az.1.bOr a b
theorem jm(a b:Bool):bOr a b=(a||b):=by unfold bOr;rw[Az.2];rfl
@[irreducible] def bIff(a b:Bool):Bool:=Az.1.bIff a b
theorem iw(a b:Bool):bIff a b=(a == b):=by unfold bIff;rw[Az.2];rfl
@[irreducible] def bSel(c:Bool)(x y:α):α:=Az.1.bSel c x y
theorem YJ(c:Bool)(x y:α):bSel c x y=(bif c then x else y):=by unfold bSel;rw[Az.2];rfl
end
mutual
inductive CT where
 |int (k:IntKind)|bool|str|ifc|sl (r:RT)
inductive RT where
 |one (t:CT)|cons (t:CT) (r:RT)
end
abbrev xu:RT:=.cons (.int .i64) (.cons (.int .i64) (.one (.int .i64)))
abbrev CU:RT:=.cons (.int .i64) (.cons (.int .i64) (.cons (.int .i64) (.one (.int .i64))))
abbrev xw:RT:=.cons (.int .i64) (.cons (.int .i64) (.cons (.int .i64) (.cons (.int .i64) (.one (.int .i64)))))
mutual
def CT.D:CT→Type
 |.int _=>Int
 |.bool=>Bool
 |.str=>List UInt8
 |.ifc=>Bool
 |.sl r=>List r.D
def RT.D:RT→Type
 |.one t=>t.D
 |.cons t r=>t.D×r.D
end
def RT.w:RT→Nat
 |.one _=>1
 |.cons _ r=>r.w+1
def CT.dflt:(t:CT)→t.D
 |.int _=>(0:Int)
 |.bool=>false
 |.str=>([]:List UInt8)
 |.ifc=>true
 |.sl r=>([]:List r.D)
def RT.dflt:(r:RT)→r.D
 |.one t=>t.dflt
 |.cons t r=>(t.dflt,r.dflt)
mutual
def CT.beq:CT→CT→Bool
 |.int k,.int k'=>decide (k=k')
 |.bool,.bool=>true
 |.str,.str=>true
 |.ifc,.ifc=>true
 |.sl r,.sl r'=>RT.beq r r'
 |_,_=>false
def RT.beq:RT→RT→Bool
 |.one t,.one t'=>CT.beq t t'
 |.cons t r,.cons t' r'=>CT.beq t t'&&RT.beq r r'
 |_,_=>false
end
mutual
theorem CT.beq_eq:∀ {a b:CT},CT.beq a b=true→a=b
 |.int k,.int k',h=>by simp only[CT.beq,AA] at h;rw[h]
 |.bool,.bool,_=>rfl
 |.str,.str,_=>rfl
 |.ifc,.ifc,_=>rfl
 |.sl r,.sl r',h=>by rw[RT.beq_eq (a:=r) (b:=r') h]
 |.int _,.bool,h|.int _,.str,h|.int _,.ifc,h|.int _,.sl _,h=>by cases h
 |.bool,.int _,h|.bool,.str,h|.bool,.ifc,h|.bool,.sl _,h=>by cases h
 |.str,.int _,h|.str,.bool,h|.str,.ifc,h|.str,.sl _,h=>by cases h
 |.ifc,.int _,h|.ifc,.bool,h|.ifc,.str,h|.ifc,.sl _,h=>by cases h
 |.sl _,.int _,h|.sl _,.bool,h|.sl _,.str,h|.sl _,.ifc,h=>by cases h
theorem RT.beq_eq:∀ {a b:RT},RT.beq a b=true→a=b
 |.one t,.one t',h=>by rw[CT.beq_eq (a:=t) (b:=t') h]
 | .cons t r,.cons t' r',h=>by
   simp only[RT.beq,Ah] at h
   rw[CT.beq_eq h.1,RT.beq_eq h.2]
 |.one _,.cons _ _,h=>by cases h
 |.cons _ _,.one _,h=>by cases h
end
def Mp{r' r:RT}(l:List r'.D):Option (List r.D):=if h:RT.beq r' r=true then some ((congrArg (fun x:RT=>List x.D) (RT.beq_eq h)).mp l) else none
inductive BX where
 |lit (b:Bool)|dyn (b:Bool)
def BX.b:BX→Bool
 |.lit b=>b
 |.dyn b=>b
inductive DV where
 |any
 |undef
 |bool (b:BX)
 |int (k:IntKind) (n:Int)
 |str (s:List UInt8)
 |ifc (b:Bool)
 |nil (q:Ql)
 |sl (q:Ql) (r:RT) (l:List r.D)
 |ep (q:Ql) (r:RT) (l:List r.D) (j o:Nat)
 |box (i o:Nat)
 |ptr (i o:Nat)
 |agg (cs:List DV)
 |tup (vs:List DV)
 deriving Inhabited
mutual
def CT.enc:(t:CT)→t.D→PV
 |.int k,n=>.fl (.int k n)
 |.bool,b=>.fl (.bool b)
 |.str,s=>.fl (.str s)
 |.ifc,b=>.fl (.ifc b)
 |.sl r,l=>.sl .own (l.map (RT.enc r))
def RT.enc:(r:RT)→r.D→List PV
 |.one t,x=>[CT.enc t x]
 |.cons t r,x=>CT.enc t x.1::RT.enc r x.2
end
mutual
def DV.enc:DV→PV
 |.any=>.fl .undef
 |.undef=>.fl .undef
 |.bool b=>.fl (.bool b.b)
 |.int k n=>.fl (.int k n)
 |.str s=>.fl (.str s)
 |.ifc b=>.fl (.ifc b)
 |.nil q=>.sl q []
 |.sl q r l=>.sl q (l.map r.enc)
 |.ep q r l j o=>.ep q (l.map r.enc) j o
 |.box i o=>.box i o
 |.ptr i o=>.ptr i o
 |.agg cs=>.agg (DV.encL cs)
 |.tup vs=>.tup (DV.encL vs)
def DV.encL:List DV→List PV
 |[]=>[]
 |v::r=>v.enc::DV.encL r
end
def CT.dv(q:Ql):(t:CT)→t.D→DV
 |.int k,n=>.int k n
 |.bool,b=>.bool (.dyn b)
 |.str,s=>.str s
 |.ifc,b=>.ifc b
 |.sl r,l=>.sl q r l
def RT.dv(q:Ql):(r:RT)→r.D→List DV
 |.one t,x=>[CT.dv q t x]
 |.cons t r,x=>CT.dv q t x.1::RT.dv q r x.2
def CT.of:(t:CT)→DV→Option t.D
 |.int k,.int k' n=>if k=k' then some n else none
 |.bool,.bool b=>some b.b
 |.str,.str s=>some s
 |.ifc,.ifc b=>some b
 |.sl r,.nil .own=>some ([]:List r.D)
 |.sl r,.sl .own r' l=>Mp (r':=r') (r:=r) l
 |_,_=>none
def RT.of:(r:RT)→List DV→Option r.D
 |.one t,[v]=>t.of v
 | .cons t r,v::vs=>(match t.of v,r.of vs with
   |some x,some y=>some (x,y)
   |_,_=>none)
 |_,_=>none
def DV.ty:DV→Option CT
 |.int k _=>some (.int k)
 |.bool _=>some .bool
 |.str _=>some .str
 |.ifc _=>some .ifc
 |.sl _ r _=>some (.sl r)
 |_=>none
def Zo:List DV→Option RT
 |[]=>none
 |[v]=>v.ty.map .one
 | v::r=>(match v.ty,Zo r with
   |some t,some r=>some (.cons t r)
   |_,_=>none)
def DV.cells:DV→List DV
 |.agg cs=>cs
 |v=>[v]
def Ql.own':Ql→Bool
 |.own|.ownw _=>true
 |_=>false
def Ql.bor' (hd:Hd):Ql→Bool
 |.bor h _ _=>h == hd
 |.pre h _=>h == hd
 |_=>false
mutual
def DV.own:DV→Bool
 |.nil q=>q.own'
 |.sl q _ _=>q.own'
 |.agg cs=>DV.ownL cs
 |.tup vs=>DV.ownL vs
 |_=>false
def DV.ownL:List DV→Bool
 |[]=>false
 |v::r=>v.own||DV.ownL r
end
mutual
def DV.bor(hd:Hd):DV→Bool
 |.nil q=>q.bor' hd
 |.sl q _ _=>q.bor' hd
 |.ep q _ _ _ _=>q.bor' hd
 |.agg cs=>DV.borL hd cs
 |.tup vs=>DV.borL hd vs
 |_=>false
def DV.borL(hd:Hd):List DV→Bool
 |[]=>false
 |v::r=>v.bor hd||DV.borL hd r
end
mutual
def DV.hold:DV→Bool
 |.nil q=>(match q with|.frz=>false|_=>true)
 |.sl q _ _=>(match q with|.frz=>false|_=>true)
 |.ep q _ _ _ _=>(match q with|.frz=>false|_=>true)
 |.agg cs=>DV.holdL cs
 |.tup vs=>DV.holdL vs
 |_=>false
def DV.holdL:List DV→Bool
 |[]=>false
 |v::r=>v.hold||DV.holdL r
end
mutual
def DV.fz:DV→DV
 |.nil _=>.nil .frz
 |.sl _ r l=>.sl .frz r l
 |.ep _ r l j o=>.ep .frz r l j o
 |.agg cs=>.agg (DV.fzL cs)
 |.tup vs=>.tup (DV.fzL vs)
 |v=>v
def DV.fzL:List DV→List DV
 |[]=>[]
 |v::r=>v.fz::DV.fzL r
end
def Ql.detop:Ql→Ql
 |.bor h p _=>.bor h p false
 |.pre h p=>.bor h p false
 |q=>q
mutual
def DV.detop:DV→DV
 |.nil q=>.nil q.detop
 |.sl q r l=>.sl q.detop r l
 |.ep q r l j o=>.ep q.detop r l j o
 |.agg cs=>.agg (DV.detopL cs)
 |.tup vs=>.tup (DV.detopL vs)
 |v=>v
def DV.detopL:List DV→List DV
 |[]=>[]
 |v::r=>v.detop::DV.detopL r
end
mutual
def DV.hasPtr:DV→Bool
 |.ptr _ _=>true
 |.agg cs=>DV.hasPtrL cs
 |.tup vs=>DV.hasPtrL vs
 |_=>false
def DV.hasPtrL:List DV→Bool
 |[]=>false
 |v::r=>v.hasPtr||DV.hasPtrL r
end
mutual
def DV.deep:DV→Bool
 |.undef|.bool _|.int _ _|.str _|.ifc _=>true
 |.nil q=>q.own'
 |.sl q _ _=>q.own'
 |.agg cs=>DV.deepL cs
 |.tup vs=>DV.deepL vs
 |.ptr _ _=>true
 |_=>false
def DV.deepL:List DV→Bool
 |[]=>true
 |v::r=>v.deep&&DV.deepL r
end
def DV.cell:DV→Bool
 |.bool _|.int _ _|.str _|.ifc _=>true
 |.nil q=>(match q with|.own|.frz|.ownw _=>true|_=>false)
 |.sl q _ _=>(match q with|.own|.frz|.ownw _=>true|_=>false)
 |_=>false
def CZ:List DV→Bool
 |[]=>true
 |v::r=>v.cell&&CZ r
def DV.argc:DV→Bool
 |.bool _|.int _ _|.str _|.ifc _|.nil _|.sl _ _ _|.ptr _ _=>true
 |_=>false
def UP:List DV→Bool
 |[]=>true
 |v::r=>v.argc&&UP r
def DV.argok:DV→Bool
 |.agg cs=>UP cs
 |v=>v.argc
def Ho:List DV→Bool
 |[]=>true
 |v::r=>v.argok&&Ho r
def DV.retc:DV→Bool
 |.ptr _ _=>true
 |v=>v.cell
def Iw:List DV→Bool
 |[]=>true
 |v::r=>v.retc&&Iw r
def DV.retok:DV→Bool
 |.agg cs=>Iw cs
 |v=>v.retc
def CT.flat:CT→Bool
 |.sl _=>false
 |_=>true
def RT.flat:RT→Bool
 |.one t=>t.flat
 |.cons t r=>t.flat&&r.flat
structure DC where
 d:Bool
 v:DV
structure DS where
 sl:List DC
 bx:List (List DC)
 hp:List (List DC)
def Bj:List DC→Nat→DV
 |[],_=>.any
 |x::_,0=>x.v
 |_::r,n+1=>Bj r n
def C4:List DC→Nat→DV→List DC
 |[],_,_=>[]
 |_::r,0,v=>⟨true,v⟩::r
 |x::r,n+1,v=>x::C4 r n v
def Bz:List (List DC)→Nat→List DC
 |[],_=>[]
 |x::_,0=>x
 |_::r,n+1=>Bz r n
def E8:List (List DC)→Nat→List DC→List (List DC)
 |[],_,_=>[]
 |_::r,0,v=>v::r
 |x::r,n+1,v=>x::E8 r n v
def Ie:List DC→Nat→List DV→List DC
 |cs,_,[]=>cs
 |[],_,_::_=>[]
 |_::r,0,v::vs=>⟨true,v⟩::Ie r 0 vs
 |c::r,n+1,v::vs=>c::Ie r n (v::vs)
def Ic:List DV→Nat→List DV→List DV
 |cs,_,[]=>cs
 |[],_,_::_=>[]
 |_::r,0,v::vs=>v::Ic r 0 vs
 |c::r,n+1,v::vs=>c::Ic r n (v::vs)
def Gm:List DV→Nat→DV
 |[],_=>.any
 |x::_,0=>x
 |_::r,n+1=>Gm r n
def OA:List DV→Nat→DV→List DV
 |[],_,_=>[]
 |_::r,0,v=>v::r
 |x::r,n+1,v=>x::OA r n v
def BO:List DV→Nat→Nat→List DV
 |_,0,0=>[]
 |[],_,_=>[]
 |c::r,0,n+1=>c::BO r 0 n
 |_::r,o+1,n=>BO r o n
def Bv:List DC→List DV
 |[]=>[]
 |c::r=>c.v::Bv r
def news:List DV→List DC
 |[]=>[]
 |v::r=>⟨true,v⟩::news r
def C6(hd:Hd):List DC→List DC
 |[]=>[]
 |c::r=>(if c.v.bor hd then ⟨true,.any⟩ else c)::C6 hd r
def DV.isBox(i:Nat):DV→Bool
 |.box j _=>i == j
 |_=>false
def PH(i:Nat):List DC→List DC
 |[]=>[]
 |c::r=>(if c.v.isBox i then ⟨true,.any⟩ else c)::PH i r
def UQ(live:List Nat):Nat→List DC→List DC
 |_,[]=>[]
 |n,c::r=>(if live.contains n then c else ⟨true,.any⟩)::UQ live (n+1) r
def clean:List DC→List DC
 |[]=>[]
 |c::r=>⟨false,c.v⟩::clean r
def Of:List (List DC)→List (List DC)
 |[]=>[]
 |b::r=>clean b::Of r
def DS.clean(st:DS):DS:=⟨Go.Ag.clean st.sl,Of st.bx,Of st.hp⟩
def Zg:List DC→List PV
 |[]=>[]
 |c::r=>c.v.enc::Zg r
def Zi:List (List DC)→List (List PV)
 |[]=>[]
 |b::r=>Zg b::Zi r
def DS.enc(st:DS):PS:=⟨Zg st.sl,Zi st.bx,Zi st.hp⟩
inductive PX where
 |tt|ff|p (h:Prop)|and (a b:PX)|ite (c:Bool) (a b:PX)
def PX.den:PX→Prop
 |.tt=>True
 |.ff=>False
 |.p h=>h
 |.and a b=>a.den∧b.den
 |.ite c a b=>(c=true→a.den)∧(c=false→b.den)
def PX.land:PX→PX→PX
 |.tt,b=>b
 |.ff,_=>.ff
 |a,.tt=>a
 |a,b=>.and a b
def PX.if' (c:Bool):PX→PX→PX
 |.tt,.tt=>.tt
 |a,b=>.ite c a b
def IG:V→DV
 |.nils=>.nil .own
 |.tup []=>.tup []
 |.bool b=>.bool (.lit b)
 |.int k n=>.int k n
 |.str s=>.str s
 |.ifc b=>.ifc b
 |_=>.undef
def Gk:List V→List DV
 |[]=>[]
 |v::r=>IG v::Gk r
def Opnd.dev(s:List DC):Opnd→DV
 |.t n=>Bj s n
 |.c v=>IG v
end
noncomputable section
mutual
def DV.ok:DV→Bool
 |.any=>false
 |.agg cs=>DV.okL cs
 |.tup vs=>DV.okL vs
 |_=>true
def DV.okL:List DV→Bool
 |[]=>true
 |v::r=>v.ok&&DV.okL r
end
def DS.put(st:DS)(d:Option Nat)(v:DV):DS:=
 match d with
 |none=>st
 |some d=>if v.own then { st with sl:=C6 (.s d) (C4 st.sl d v) } else { st with sl:=C4 st.sl d v }
def Q5(v:DV)(n:Nat)(st:DS):DV×DS:=if v.own then (if v.bor (.s n) then (.any,st) else (v,{ st with sl:=C6 (.s n) (C4 st.sl n .any) })) else (v,st)
def A7(x:Opnd)(st:DS):DV×DS:=match x with
 |.c v=>(IG v,st)
 |.t n=>Q5 (Bj st.sl n) n st
def UZ(v:DV)(n:Nat)(st:DS):DV×DS:=if v.own then (if v.retok then (v.fz,{ st with sl:=C6 (.s n) (C4 st.sl n v.fz) }) else (.any,st)) else (v,st)
def L6(x:Opnd)(st:DS):DV×DS:=match x with
 |.c v=>(IG v,st)
 |.t n=>UZ (Bj st.sl n) n st
def DV.fcell:DV→List Nat→DV
 |.agg cs,[c]=>Gm cs c
 |.agg _,_=>.any
 |.tup vs,[i,c]=>Gm (Gm vs i).cells c
 |.tup _,_=>.any
 |v,[0]=>v
 |_,_=>.any
def DV.setc:DV→List Nat→DV→DV
 |.agg cs,[c],w=>.agg (OA cs c w)
 |.agg cs,_,_=>.agg cs
 |.tup vs,_,_=>.tup vs
 |_,[0],w=>w
 |v,_,_=>v
def BU(st:DS):Hd→List Nat→DV
 |.s t,p=>(Bj st.sl t).fcell p
 |.b i,[c]=>Bj (Bz st.bx i) c
 |.h i,[c]=>Bj (Bz st.hp i) c
 |_,_=>.any
def Gd(st:DS)(v:DV):Hd→List Nat→DS
 |.s t,p=>{ st with sl:=C6 (.s t) (C4 st.sl t ((Bj st.sl t).setc p v)) }
 |.b i,[c]=>{ st with sl:=C6 (.b i) st.sl,bx:=E8 st.bx i (C4 (Bz st.bx i) c v) }
 |.h i,[c]=>{ st with sl:=C6 (.h i) st.sl,hp:=E8 st.hp i (C4 (Bz st.hp i) c v) }
 |_,_=>st
def Ql.brw(hd:Hd)(p:List Nat):Ql→Ql
 |.own=>.bor hd p true
 |.ownw _=>.pre hd p
 |q=>q
def YV(hd:Hd)(p:List Nat):DV→DV
 |.sl q r l=>.sl (q.brw hd p) r l
 |.nil q=>.nil (q.brw hd p)
 |v=>v
def Ix(hd:Hd):Nat→List DV→List DV
 |_,[]=>[]
 |c,v::r=>YV hd [c] v::Ix hd (c+1) r
def YY(hd:Hd):DV→DV
 |.agg cs=>.agg (Ix hd 0 cs)
 |.tup vs=>if DV.ownL vs then .undef else .tup vs
 |v=>YV hd [0] v
def JE(x:Opnd)(st:DS):DV×DS:=match x with
 |.c v=>(IG v,st)
 |.t n=>(YY (.s n) (Bj st.sl n),st)
def OC:Ql→Option Ql
 |.frz=>some .frz
 |.bor hd _ _=>some (.bor hd [] false)
 |.pre hd _=>some (.bor hd [] false)
 |_=>none
def Oi:List DV→List DV
 |[]=>[]
 |v::r=>(if v.own then .any else v)::Oi r
def E5(n:Option Nat)(cs:List DV):Option DV:=
 match n,cs with
 |some _,cs=>some (.agg cs)
 |none,[v]=>some v
 |none,_=>none
def Hx(d:Nat):Option DV→Option (PX×Nat)
 |none=>some (.tt,d)
 |some (.int _ i)=>some (.p (0≤i),iNat i)
 |some _=>none
def It:List DV→List (Nat×Nat×Opnd)→DS→Option (List DV×DS)
 |cs,[],st=>some (cs,st)
 | cs,(off,size,x)::r,st=>
   if (A7 x st).1.cells.length == size&&Nat.ble (off+size) cs.length&&CZ (A7 x st).1.cells then It (Ic cs off (A7 x st).1.cells) r (A7 x st).2 else none
abbrev DO:=Option (PX×DV)
def EH(v:DV):DO:=some (.tt,v)
def dI(k:IntKind)(n:Int):DO:=some (.tt,.int k n)
def dB(b:Bool):DO:=some (.tt,.bool (.dyn b))
def T9(op:BinOp)(k:IntKind)(a b:Int):DO:=
 match op with
 |.add=>dI k (iAdd k a b)
 |.sub=>dI k (iSub k a b)
 |.mul=>dI k (iMul k a b)
 |.quo=>some (.p (b≠0),.int k (iQuo k a b))
 |.rem=>some (.p (b≠0),.int k (iRem a b))
 |.and=>dI k (iAnd k a b)
 |.or=>dI k (iOr k a b)
 |.xor=>dI k (iXor k a b)
 |.andNot=>dI k (iAndNot k a b)
 |.eql=>dB (iEq a b)
 |.neq=>dB (iNe a b)
 |.lss=>dB (iLt a b)
 |.leq=>dB (iLe a b)
 |.gtr=>dB (iGt a b)
 |.geq=>dB (iGe a b)
 |_=>none
def Ux(op:BinOp)(k:IntKind)(a b:Int):DO:=
 match op with
 |.shl=>some (.p (0≤b),.int k (iShl k a b))
 |.shr=>some (.p (0≤b),.int k (iShr k a b))
 |_=>none
def IntKind.same(k k':IntKind):Bool:=decide (k=k')
def OD(op:BinOp)(x y:DV):DO:=
 match x,y with
 | .int k a,.int k' b=>(match op with
   |.shl=>Ux .shl k a b
   |.shr=>Ux .shr k a b
   |op=>if IntKind.same k k' then T9 op k a b else none)
 | .str a,.str b=>(match op with
   |.add=>some (.p (a.length+b.length≤9223372036854775807),.str (sAdd a b))
   |.eql=>dB (sEq a b)
   |.neq=>dB (sNe a b)
   |_=>none)
 |_,_=>none
def BX.not:BX→BX
 |.lit b=>.lit (!b)
 |.dyn b=>.dyn (bNot b)
def BX.eq:BX→BX→BX
 |.lit a,.lit b=>.lit (a == b)
 |.lit true,.dyn b=>.dyn b
 |.lit false,.dyn b=>.dyn (bNot b)
 |.dyn a,.lit true=>.dyn a
 |.dyn a,.lit false=>.dyn (bNot a)
 |.dyn a,.dyn b=>.dyn (bIff a b)
def U3(neg:Bool):DV→DV→DO
 |.bool a,.bool b=>EH (.bool (if neg then (a.eq b).not else a.eq b))
 |_,_=>none
def Zh(neg:Bool):DV→DO
 |.ifc a=>dB (if neg then bNot a else a)
 |_=>none
def Ks:List DV→List DV→Option BX
 |[],[]=>some (.lit true)
 |.int k a::x,.int k' b::y=>if IntKind.same k k' then (match x,y with
  |[],[]=>some (.dyn (iEq a b))
  |x,y=>(Ks x y).map fun t=>.dyn (bAnd (iEq a b) t.b)) else none
 |_,_=>none
def U5(n:Nat)(neg:Bool):DV→DV→DO
 | .agg a,.agg b=>if a.length == n&&b.length == n then (match Ks a b with
   |some t=>EH (.bool (if neg then t.not else t))
   |none=>none) else none
 |_,_=>none
def Zn(op:UnOp)(x:DV):DO:=
 match op,x with
 |.not,.bool b=>EH (.bool b.not)
 |.neg,.int k n=>dI k (iNeg k n)
 |_,_=>none
def Y6(k:IntKind):DV→DO
 |.int _ n=>dI k (iConv k n)
 |_=>none
def UE:(r:RT)→List r.D→Option (List UInt8)
 |.one (.int .u8),l=>some (rowS l)
 |_,_=>none
def YW:DV→DO
 |.nil _=>EH (.str [])
 |.sl _ r l=>(UE r l).map fun s=>(.tt,.str s)
 |_=>none
def jt(x:Opnd)(z:Bool)(q:Ql):Option Ql:=Ey x (if z then 0 else 1) q
def YL(w:Nat)(x:Opnd)(lo hi:Option DV):DV→DO
 | .sl q r l=>(match Hx 0 lo,Hx (lN l) hi with
   | some (g,a),some (g',b)=>if r.w == w then (match jt x lo.isNone q with
     |some q'=>some ((g.land g').land (.p (a≤b∧b≤l.length∧0<l.length)),.sl q' r (lSub l a b))
     |none=>none) else none
   |_,_=>none)
 |_=>none
def XS(lo hi:Option DV):DV→DO
 | .str t=>(match Hx 0 lo,Hx (lN t) hi with
   |some (g,a),some (g',b)=>some ((g.land g').land (.p (a≤b∧b≤t.length)),.str (lSub t a b))
   |_,_=>none)
 |_=>none
def YP:DV→DO
 |.box i o=>EH (.box i o)
 |.ptr i o=>EH (.ptr i o)
 |.ep q r l j o=>EH (.ep q r l j o)
 |_=>none
def XU(off:Nat):DV→DO
 |.box i o=>EH (.box i (o+off))
 |.ptr i o=>EH (.ptr i (o+off))
 |.ep q r l j o=>EH (.ep q r l j (o+off))
 |_=>none
def XY(off:Nat)(n:Option Nat)(x:Opnd):DV→DO
 | .agg cs=>(match x with
   |.t t=>if Nat.ble (off+n.getD 1) cs.length&&DV.okL (BO cs off (n.getD 1)) then (E5 n (Ix (.s t) off (BO cs off (n.getD 1)))).map fun v=>(.tt,v) else none
   |.c _=>none)
 |_=>none
def Qc(w:Nat)(x:Opnd):DV→DV→DO
 | .sl q r l,.int _ j=>if r.w == w then (match EA x q with
   |some q'=>some (.p (0≤j∧j<l.length),.ep q' r l (iNat j) 0)
   |none=>none) else none
 |.nil _,.int _ _=>none
 |_,_=>none
def Up:DV→DV→DO
 |.str t,.int _ j=>some (.p (0≤j∧j<t.length),.int .u8 (sGet t j))
 |_,_=>none
def Zf:DV→DO
 |.sl _ _ l=>dI .i64 (lLen l)
 |.nil _=>dI .i64 0
 |_=>none
def Y9:DV→DO
 |.str t=>dI .i64 (lLen t)
 |_=>none
def Ze:DV→DV→DO
 |.int .i64 a,.int .i64 b=>dI .i64 (iMin a b)
 |_,_=>none
def Zd:DV→DV→DO
 |.int .i64 a,.int .i64 b=>dI .i64 (iMax a b)
 |_,_=>none
abbrev D1:=Option (PX×DV×DS)
def Mg(m:Bool)(i:Nat)(n:Option Nat)(a:DV)(st:DS):D1:=
 match a with
 | .box j o=>
   let cs:=BO (Bv (Bz st.bx i)) o (n.getD 1)
   if i == j&&Nat.ble (o+n.getD 1) (Bz st.bx i).length&&DV.okL cs then
    if m then (E5 n cs).map fun v=>(.tt,v,{ st with sl:=C6 (.b i) st.sl,bx:=E8 st.bx i (Ie (Bz st.bx i) o (Oi cs)) })
    else (E5 n (Ix (.b i) o cs)).map fun v=>(.tt,v,st)
   else none
 |_=>none
def KI(m:Bool)(n:Option Nat)(a:DV)(st:DS):D1:=
 match a with
 | .ptr i o=>
   let cs:=BO (Bv (Bz st.hp i)) o (n.getD 1)
   if Nat.blt i st.hp.length&&Nat.ble (o+n.getD 1) (Bz st.hp i).length&&DV.okL cs then
    if m then (E5 n cs).map fun v=>(.tt,v,{ st with sl:=C6 (.h i) st.sl,hp:=E8 st.hp i (Ie (Bz st.hp i) o (Oi cs)) })
    else (E5 n (Ix (.h i) o cs)).map fun v=>(.tt,v,st)
   else none
 | .ep q r l j o=>(match OC q with
   |some q'=>if Nat.ble (o+n.getD 1) r.w then (E5 n (BO (r.dv q' (lGet l j r.dflt)) o (n.getD 1))).map fun v=>(.p (j<l.length),v,st) else none
   |none=>none)
 |_=>none
def Qf(i n:Nat)(a x:Opnd)(st0:DS):D1:=
 match A7 x st0 with
 | (v, st)=>match a.dev st0.sl with
   |.box j o=>if i == j&&Nat.blt i st.bx.length&&v.cells.length == n&&Nat.ble (o+n) (Bz st.bx i).length&&CZ v.cells then
    some (.tt,.undef,{ st with sl:=if (!DV.okL (BO (Bv (Bz st.bx i)) o n))||DV.ownL (BO (Bv (Bz st.bx i)) o n)||v.own then C6 (.b i) st.sl else st.sl,bx:=E8 st.bx i (Ie (Bz st.bx i) o v.cells) }) else none
   |_=>none
def Qj(n:Nat)(a x:Opnd)(st0:DS):D1:=
 match A7 x st0 with
 | (v, st)=>match a.dev st.sl with
   |.ptr i o=>if Nat.blt i st.hp.length&&v.cells.length == n&&Nat.ble (o+n) (Bz st.hp i).length&&CZ v.cells then
    some (.tt,.undef,{ st with sl:=if (!DV.okL (BO (Bv (Bz st.hp i)) o n))||DV.ownL (BO (Bv (Bz st.hp i)) o n)||v.own then C6 (.h i) st.sl else st.sl,hp:=E8 st.hp i (Ie (Bz st.hp i) o v.cells) }) else none
   | .ep (.bor hd [p] true) _ _ j o=>(match BU st hd [p] with
     | .sl .own r l=>if v.cells.length == n&&Nat.ble (o+n) r.w&&CZ v.cells then (match r.of (Ic (r.dv .own (lGet l j r.dflt)) o v.cells) with
       |some y=>some (.p (j<l.length),.undef,Gd st (.sl .own r (lSet l j y)) hd [p])
       |none=>none) else none
     |_=>none)
   |_=>none
def Iq(m:Bool)(n:Option Nat)(a:DV)(st:DS):Option D1:=
 match m,n,a with
 | true,none,.ep (.bor hd [c] true) (.one (.sl _)) l j 0=>some (match BU st hd [c] with
   |.sl .own (.one (.sl r)) l2=>some (.p (j<l.length∧j<l2.length),.sl (.bor hd [c,j] true) r (lGet (α:=List r.D) l2 j []),st)
   |_=>none)
 |_,_,_=>none
def DV.nestX(i c:Nat):DV→Bool
 |.ep (.bor (.b i') [c'] true) _ _ _ _=>i == i'&&c == c'
 |_=>false
def DV.nest:DV→Option (Hd×Nat×Nat×Nat×Nat)
 |.ep (.bor hd [p,k] true) _ _ j o=>some (hd,p,k,j,o)
 |_=>none
def DV.nflat:DV→Bool
 |.bool _|.int _ _|.str _|.ifc _=>true
 |_=>false
def Mj:List DV→Bool
 |[]=>true
 |v::r=>v.nflat&&Mj r
def Qe(n:Nat)(hd:Hd)(p k j o:Nat)(v:DV)(st:DS):D1:=
 match BU st hd [p] with
 | .sl .own (.one (.sl r)) l=>if v.cells.length == n&&Nat.ble (o+n) r.w&&Mj v.cells then (match r.of (Ic (r.dv .own (lGet (lGet (α:=List r.D) l k []) j r.dflt)) o v.cells) with
   |some y=>some (.p (k<l.length∧j<(lGet (α:=List r.D) l k []).length),.undef,Gd st (.sl .own (.one (.sl r)) (lSet (α:=List r.D) l k (lSet (lGet (α:=List r.D) l k []) j y))) hd [p])
   |none=>none) else none
 |_=>none
inductive DSrc where
 |nil
 |sl (r:RT) (l:List r.D)
def DSrc.w:DSrc→Nat→Bool
 |.nil,_=>true
 |.sl r _,w=>r.w == w
def DSrc.to(r:RT):DSrc→Option (List r.D)
 |.nil=>some []
 |.sl _ l=>Mp l
def IA(w:Nat)(y:Opnd)(st:DS):Option (DSrc×DS):=
 match y.dev st.sl with
 |.str s=>if w == 1 then some (.sl (.one (.int .u8)) (sRow s),st) else none
 |.sl .own r l=>if r.w == w then some (.sl r l,(A7 y st).2) else none
 |.sl (.ownw _) _ _=>none
 |.sl _ r l=>if r.w == w&&r.flat then some (.sl r l,st) else none
 |.nil .own=>some (.nil,(A7 y st).2)
 |.nil _=>some (.nil,st)
 |_=>none
def Oy(w:Nat)(x:Opnd)(new:DSrc)(st:DS):D1:=
 if !(Nat.blt 0 w&&new.w w) then none else
 match x.dev st.sl with
 | .nil .own=>(match new with
   |.nil=>some (.tt,.nil .own,(A7 x st).2)
   |.sl r l=>some (.p (AE (l.length*w)),.sl .own r l,(A7 x st).2))
 | .sl .own r l=>if r.w == w then (match new.to r with
   |some n=>some (.p (AE ((l.length+n.length)*w)),.sl .own r (lApp l n),(A7 x st).2)
   |none=>none) else none
 | .sl (.bor hd [c] true) r l=>(match BU st hd [c] with
   | .sl .own rh lh=>if rh.w == w then (match new.to rh with
     |some n=>some (.p (l.length=lh.length∧AE ((lh.length+n.length)*w)),.sl .own rh (lApp lh n),Gd st .undef hd [c])
     |none=>none) else none
   |_=>none)
 | .nil (.bor hd [c] true)=>(match BU st hd [c] with
   | .nil .own=>(match new with
     |.nil=>some (.tt,.nil .own,Gd st .undef hd [c])
     |.sl r l=>some (.p (AE (l.length*w)),.sl .own r l,Gd st .undef hd [c]))
   |_=>none)
 | .sl (.pre hd [c]) r l=>(match BU st hd [c] with
   | .sl .own rh lh=>if rh.w == w then (match new.to rh with
     |some n=>some (.p (0<lh.length∧l.length≤lh.length∧0<l.length+n.length∧AE ((l.length+n.length)*w)),.sl .own rh (lApp (lTake lh (lN l)) n),Gd st .undef hd [c])
     |none=>none) else none
   |_=>none)
 |_=>none
def KV(w:Nat)(new:DSrc)(st:DS):D1:=
 match new with
 |.nil=>some (.tt,.nil (.ownw w),st)
 |.sl r l=>some (.p (AE (l.length*w)),.sl (.ownw w) r l,st)
def QV(w:Nat)(x:Opnd)(new:DSrc)(st:DS):D1:=
 if !(Nat.blt 0 w&&new.w w) then none else
 match x.dev st.sl with
 |.nil .own=>KV w new (A7 x st).2
 |.nil (.ownw w')=>if w' == w then KV w new (A7 x st).2 else none
 | .sl .own r l=>if r.w == w then (match new.to r with
   |some n=>some (.p (AE ((l.length+n.length)*w)),.sl (.ownw w) r (lApp l n),(A7 x st).2)
   |none=>none) else none
 | .sl (.ownw w') r l=>if w' == w&&r.w == w then (match new.to r with
   |some n=>some (.p (AE ((l.length+n.length)*w)),.sl (.ownw w) r (lApp l n),(A7 x st).2)
   |none=>none) else none
 | .sl (.pre hd [c]) r l=>(match BU st hd [c] with
   | .sl .own rh lh=>if rh.w == w then (match new.to rh with
     |some n=>some (.p (0<lh.length∧l.length≤lh.length∧AE ((l.length+n.length)*w)),.sl (.ownw w) rh (lApp (lTake lh (lN l)) n),Gd st .undef hd [c])
     |none=>none) else none
   | .sl (.ownw w') rh lh=>if w' == w&&rh.w == w then (match new.to rh with
     |some n=>some (.p (0<lh.length∧l.length≤lh.length∧AE ((l.length+n.length)*w)),.sl (.ownw w) rh (lApp (lTake lh (lN l)) n),Gd st .undef hd [c])
     |none=>none) else none
   |_=>none)
 |_=>none
def Rf(w:Nat):DV→Option DV
 |.nil .own=>some (.nil (.ownw w))
 |.nil (.ownw w')=>if w' == w then some (.nil (.ownw w)) else none
 |.sl .own r l=>if r.w == w then some (.sl (.ownw w) r l) else none
 |.sl (.ownw w') r l=>if w' == w then some (.sl (.ownw w) r l) else none
 |_=>none
def U1:List (Nat×Nat)→List DV→Option (List DV)
 |[],l=>some l
 | (c,w)::r,l=>match Rf w (Gm l c) with
   |some v=>U1 r (OA l c v)
   |none=>none
def MH(ws:List (Nat×Nat)):DV→Option DV
 |.agg l=>(U1 ws l).map .agg
 | .nil q=>(match ws with
   |[(0,w)]=>Rf w (.nil q)
   |_=>none)
 | .sl q r l=>(match ws with
   |[(0,w)]=>Rf w (.sl q r l)
   |_=>none)
 |_=>none
def NX(r:RT)(w:Nat):Nat→List DV→Option (List r.D)
 |0,_=>some []
 | n+1,cs=>(match r.of (cs.take w),NX r w n (cs.drop w) with
   |some x,some l=>some (x::l)
   |_,_=>none)
def GG:List V→Bool
 |[]=>true
 |v::r=>v.flat&&GG r
def Om(o:AOp)(e:Opnd→DV):DO:=
 match o with
 |.nilck x=>YP (e x)
 |.bin op x y=>OD op (e x) (e y)
 |.eqB neg x y=>U3 neg (e x) (e y)
 |.eqN neg x y=>(match y with|.c (.ifc true)=>Zh neg (e x)|_=>none)
 |.eqA n neg x y=>U5 n neg (e x) (e y)
 |.un op x=>Zn op (e x)
 |.conv k x=>Y6 k (e x)
 |.bstr x=>YW (e x)
 |.slice w x lo hi=>YL w x (lo.map e) (hi.map e) (e x)
 |.substr x lo hi=>XS (lo.map e) (hi.map e) (e x)
 |.fieldA off a=>XU off (e a)
 |.field off n x=>XY off n x (e x)
 |.indexA w x i=>Qc w x (e x) (e i)
 |.index x i=>Up (e x) (e i)
 |.len x=>Zf (e x)
 |.lenT x=>Y9 (e x)
 |.minI x y=>Ze (e x) (e y)
 |.maxI x y=>Zd (e x) (e y)
 |_=>none
def Bs (m:Bool)(o:AOp)(ty:Option RT)(st:DS):D1:=
 let e (x:Opnd):=x.dev st.sl
 let known (r:DV×DS):D1:=if r.1.ok then some (.tt,r.1,r.2) else none
 match o with
 |.mv x=>known (if m then JE x st else A7 x st)
 |.allocB i zs=>if Nat.blt i st.bx.length&&GG zs then some (.tt,.box i 0,{ st with sl:=C6 (.b i) (PH i st.sl),bx:=E8 st.bx i (news (Gk zs)) }) else none
 | .boxB i n x=>(match A7 x st with
   |(v,st)=>if Nat.blt i st.bx.length&&v.cells.length == n&&CZ v.cells then some (.tt,.box i 0,{ st with sl:=C6 (.b i) (PH i st.sl),bx:=E8 st.bx i (news v.cells) }) else none)
 |.allocH zs=>if GG zs then some (.tt,.ptr st.hp.length 0,{ st with sl:=C6 (.h st.hp.length) st.sl,hp:=st.hp++[news (Gk zs)] }) else none
 | .boxH n x=>(match A7 x st with
   |(v,st)=>if v.cells.length == n&&CZ v.cells then some (.tt,.ptr st.hp.length 0,{ st with sl:=C6 (.h st.hp.length) st.sl,hp:=st.hp++[news v.cells] }) else none)
 | .build zs ps=>if GG zs then (match It (Gk zs) ps st with
   |some (cs,st)=>some (.tt,.agg cs,st)
   |none=>none) else none
 | .mkSlice w z len=>(match e len with
   | .int .i64 n=>(match (match ty with|some r=>some r|none=>Zo (Gk z)) with
     | some r=>(match r.of (Gk z) with
       |some d=>if z.length == w&&r.w == w&&Nat.blt 0 w&&GG z then some (.p (0≤n∧AE (n.toNat*w)),.sl .own r (lRep n d),st) else none
       |none=>none)
     |none=>none)
   |_=>none)
 | .litSlice w n zs ps=>
   if n == 0 then some (.tt,(match ty with|some r=>.sl .own r []|none=>.nil .own),st)
   else if GG zs&&zs.length == n*w&&Nat.blt 0 w then (match It (Gk zs) ps st with
    | some (cs,st)=>(match (match ty with|some r=>some r|none=>Zo (cs.take w)) with
      | some r=>if r.w == w then (match NX r w n cs with
        |some l=>some (.tt,.sl .own r l,st)
        |none=>none) else none
      |none=>none)
    |none=>none)
   else none
 |.loadB i n a=>Mg m i n (e a) st
 | .loadH n a=>(match Iq m n (e a) st with
   |some r=>r
   |none=>KI m n (e a) st)
 | .loadX i c n a=>if (e a).nestX i c then (match Iq m n (e a) st with
   |some r=>r
   |none=>none) else none
 |.storeB i n a x=>Qf i n a x st
 | .storeH n a x=>if (e a).ok then (match (e a).nest with
   |some (hd,p,k,j,o)=>Qe n hd p k j o (e x) st
   |none=>Qj n a x st) else none
 | .app w x y=>(match IA w y st with
   |some (new,st)=>Oy w x new st
   |none=>none)
 | .appN w x y=>(match x.dev st.sl with
   | .nil .own=>(match IA w y st with
     |some (new,st)=>Oy w x new st
     |none=>none)
   |_=>none)
 | .extract x i=>(match x with
   | .t t=>(match Bj st.sl t with
     |.tup vs=>if Nat.blt i vs.length&&(Gm vs i).ok then (if (Gm vs i).own then (if (Gm vs i).bor (.s t) then none else some (.tt,Gm vs i,{ st with sl:=C6 (.s t) (C4 st.sl t (.tup (OA vs i .undef))) })) else some (.tt,Gm vs i,st)) else none
     |_=>none)
   |.c _=>none)
 |.pick ..=>none
 |.callB ..=>none
 |o=>(Om o e).map fun r=>(r.1,r.2,st)
def Mk(ws:List (Nat×Nat))(m:Bool)(o:AOp)(ty:Option RT)(st:DS):D1:=
 match o with
 | .app w x y=>(match ws with
   | [(0,w')]=>if w' == w then (match IA w y st with
     |some (new,st)=>QV w x new st
     |none=>none) else none
   |_=>none)
 | o => (match Bs m o ty st with
   | some (g,v,st)=>(match MH ws v with
     |some v=>some (g,v,st)
     |none=>none)
   |none=>none)
end
noncomputable section
def U0(c:Bool):BX→BX→BX
 |.lit true,.lit true=>.lit true
 |.lit false,.lit false=>.lit false
 |.lit true,.lit false=>.dyn c
 |.lit false,.lit true=>.dyn (bNot c)
 |.lit true,.dyn y=>.dyn (bOr c y)
 |.lit false,.dyn y=>.dyn (bAnd (bNot c) y)
 |.dyn x,.lit true=>.dyn (bOr (bNot c) x)
 |.dyn x,.lit false=>.dyn (bAnd c x)
 |.dyn x,.dyn y=>.dyn (bSel c x y)
def Em(q q':Ql):Bool:=decide (q=q')
mutual
def CR(c:Bool):DV→DV→DV
 |.undef,.undef=>.undef
 |.bool x,.bool y=>.bool (U0 c x y)
 |.int k x,.int k' y=>if IntKind.same k k' then .int k (bSel c x y) else .any
 |.str x,.str y=>.str (bSel c x y)
 |.ifc x,.ifc y=>.ifc (bSel c x y)
 |.nil q,.nil q'=>if Em q q' then .nil q else .any
 |.nil q,.sl q' r l=>if Em q q' then .sl q r (bSel c [] l) else .any
 |.sl q r l,.nil q'=>if Em q q' then .sl q r (bSel c l []) else .any
 | .sl q r l,.sl q' r' l'=>if Em q q' then (match Mp (r':=r') (r:=r) l' with
   |some l'=>.sl q r (bSel c l l')
   |none=>.any) else .any
 |.box i o,.box i' o'=>if i == i'&&o == o' then .box i o else .any
 |.ptr i o,.ptr i' o'=>if i == i'&&o == o' then .ptr i o else .any
 |.agg x,.agg y=>if x.length == y.length&&DV.okL (JN c x y) then .agg (JN c x y) else .any
 |.tup x,.tup y=>if x.length == y.length&&DV.okL (JN c x y) then .tup (JN c x y) else .any
 |_,_=>.any
def JN(c:Bool):List DV→List DV→List DV
 |x::a,y::b=>CR c x y::JN c a b
 |_,_=>[]
end
def U4(c:Bool)(x y:DC):DC:=if x.d||y.d then ⟨true,CR c x.v y.v⟩ else x
def QK(c:Bool):List DC→List DC→List DC
 |x::a,y::b=>U4 c x y::QK c a b
 |_,_=>[]
def QQ(c:Bool):List (List DC)→List (List DC)→List (List DC)
 |x::a,y::b=>(if x.length == y.length then QK c x y else [])::QQ c a b
 |_,_=>[]
def MA(c:Bool)(x y:DS):Option DS:=
 if x.sl.length == y.sl.length&&x.bx.length == y.bx.length&&x.hp.length == y.hp.length then some ⟨QK c x.sl y.sl,QQ c x.bx y.bx,QQ c x.hp y.hp⟩ else none
def Oz:List DC→List DC→List DC
 |x::a,y::b=>⟨x.d||y.d,y.v⟩::Oz a b
 |_,r=>r
def Q4:List (List DC)→List (List DC)→List (List DC)
 |x::a,y::b=>Oz x y::Q4 a b
 |_,r=>r
def K4(x y:DS):DS:=⟨Oz x.sl y.sl,Q4 x.bx y.bx,Q4 x.hp y.hp⟩
inductive DT where
 |leaf (e:AExit) (st:DS)
 |node (c:Bool) (a b:DT)
 |chk (g:PX) (t:DT)
 |bad
inductive NS where
 |none|some (st:DS)|fail
def DT.norm:DT→NS
 |.leaf .normal st=>.some st
 |.leaf _ _=>.none
 | .node c a b=>(match a.norm,b.norm with
   |.none,y=>y
   |x,.none=>x
   | .some x,.some y=>(match MA c x y with
     |some z=>.some z
     |none=>.fail)
   |_,_=>.fail)
 |.chk _ t=>t.norm
 |.bad=>.none
def DT.nn:DT→Nat
 |.leaf .normal _=>1
 |.node _ a b=>a.nn+b.nn
 |.chk _ t=>t.nn
 |_=>0
def DT.cont:DT→Option BX
 |.leaf .normal _=>some (.lit true)
 |.leaf _ _=>some (.lit false)
 | .node c a b=>(match a.cont,b.cont with
   |none,y=>y
   |x,none=>x
   |some x,some y=>some (U0 c x y))
 |.chk _ t=>t.cont
 |.bad=>none
def DT.ok:DT→PX
 |.leaf _ _=>.tt
 |.node c a b=>PX.if' c a.ok b.ok
 |.chk g t=>g.land t.ok
 |.bad=>.ff
def DT.nodeB(c:Bool):DT→DT→DT
 |.bad,b=>b
 |a,.bad=>a
 |a,b=>.node c a b
def DT.drop:DT→DT
 |.leaf .normal _=>.bad
 |.leaf e st=>.leaf e st
 |.node c a b=>DT.nodeB c a.drop b.drop
 |.chk _ t=>t.drop
 |.bad=>.bad
def DT.map(f:DS→DS):DT→DT
 |.leaf e st=>.leaf e (f st)
 |.node c a b=>.node c (a.map f) (b.map f)
 |.chk g t=>.chk g (t.map f)
 |.bad=>.bad
def DT.bind(f:DS→DT)(h:DS→DS):DT→DT
 |.leaf .normal st=>f st
 |.leaf e st=>.leaf e (h st)
 |.node c a b=>.node c (a.bind f h) (b.bind f h)
 |.chk g t=>.chk g (t.bind f h)
 |.bad=>.bad
def DT.unexit(i:Nat):DT→DT
 |.leaf (.exit j) st=>if j == i then .leaf .normal st else .leaf (.exit j) st
 |.leaf e st=>.leaf e st
 |.node c a b=>.node c (a.unexit i) (b.unexit i)
 |.chk g t=>.chk g (t.unexit i)
 |.bad=>.bad
def DT.chk':PX→DT→DT
 |.tt,t=>t
 |g,t=>.chk g t
def DT.then(f:DS→DT)(h:DS→DS)(t:DT):DT:=
 if Nat.ble t.nn 1 then t.bind f h
 else match t.norm with
  | .some m=>DT.chk' t.ok (match t.cont with
    |some (.dyn c)=>.node c (f m) (t.drop.map h)
    |some (.lit true)=>f m
    |_=>.bad)
  |_=>t.bind f h
section
variable {X:Type}
inductive LoopTo (c:X→Bool) (f:X→X) (p:X→Prop):X→X→Prop
 |stop {x:X}:p x→c x=false→LoopTo c f p x x
 |go {x y:X}:p x→c x=true→LoopTo c f p (f x) y→LoopTo c f p x y
def LoopOk(c:X→Bool)(f:X→X)(p:X→Prop)(x:X):Prop:=∃ y,LoopTo c f p x y
open Classical in
def Am(c:X→Bool)(f:X→X)(x:X):X:=if h:∃ y,LoopTo c f (fun _=>True) x y then Classical.choose h else x
theorem LoopTo.fst{c:X→Bool}{f:X→X}{p q:X→Prop}{x y z:X}(h:LoopTo c f p x y)(h':LoopTo c f q x z):y=z:=by
 induction h with
 | stop _ h1=>
   cases h' with
   |stop=>rfl
   |go _ h2=>rw[h1] at h2;cases h2
 | go _ h1 _ ih=>
   cases h' with
   |stop _ h2=>rw[h1] at h2;cases h2
   |go _ _ h3=>exact ih h3
theorem LoopTo.mono{c:X→Bool}{f:X→X}{p q:X→Prop}(hp:∀ x,p x→q x){x y:X}(h:LoopTo c f p x y):LoopTo c f q x y:=by
 induction h with
 |stop h0 h1=>exact .stop (hp _ h0) h1
 |go h0 h1 _ ih=>exact .go (hp _ h0) h1 ih
theorem LoopTo.val{c:X→Bool}{f:X→X}{p:X→Prop}{x y:X}(h:LoopTo c f p x y):Am c f x=y:=by
 have h':∃ y,LoopTo c f (fun _=>True) x y:=⟨y,h.mono fun _ _=>trivial⟩;unfold Am;rw[dif_pos h'];exact(Classical.choose_spec h').fst h
theorem LoopOk.to{c:X→Bool}{f:X→X}{p:X→Prop}{x:X}(h:LoopOk c f p x):LoopTo c f p x (Am c f x):=by
 obtain⟨y,h⟩:=h;rw[h.val];exact h
end
inductive Pl where
 |s (i:Nat)|b (i c:Nat)|h (i c:Nat)
inductive HT where
 |one (q:Ql) (t:CT)|agg (l:List (Ql×CT))
structure Hole where
 pl:Pl
 t:HT
def AgX:List (Ql×CT)→Type
 |[]=>Unit
 |[a]=>a.2.D
 |a::r=>a.2.D×AgX r
def HT.D:HT→Type
 |.one _ t=>t.D
 |.agg l=>AgX l
def GX:List Hole→Type
 |[]=>Unit
 |[a]=>a.t.D
 |a::r=>a.t.D×GX r
def DS.at(st:DS):Pl→DV
 |.s i=>Bj st.sl i
 |.b i c=>Bj (Bz st.bx i) c
 |.h i c=>Bj (Bz st.hp i) c
def DS.wr(st:DS)(v:DV):Pl→DS
 |.s i=>{ st with sl:=C4 st.sl i v }
 |.b i c=>{ st with bx:=E8 st.bx i (C4 (Bz st.bx i) c v) }
 |.h i c=>{ st with hp:=E8 st.hp i (C4 (Bz st.hp i) c v) }
def CT.ofQ(q:Ql):(t:CT)→DV→Option t.D
 |.int k,.int k' n=>if IntKind.same k k' then some n else none
 |.bool,.bool b=>some b.b
 |.str,.str s=>some s
 |.ifc,.ifc b=>some b
 |.sl r,.nil q'=>if Em q q' then some ([]:List r.D) else none
 |.sl r,.sl q' r' l=>if Em q q' then Mp (r':=r') (r:=r) l else none
 |_,_=>none
def Ez:(l:List (Ql×CT))→List DV→Option (AgX l)
 |[],[]=>some ()
 |[a],[v]=>a.2.ofQ a.1 v
 | a::b::r,v::vs=>(match a.2.ofQ a.1 v,Ez (b::r) vs with
   |some x,some y=>some (x,y)
   |_,_=>none)
 |_,_=>none
def CI:(l:List (Ql×CT))→AgX l→List DV
 |[],_=>[]
 |[a],x=>[a.2.dv a.1 x]
 |a::b::r,x=>a.2.dv a.1 x.1::CI (b::r) x.2
def HT.of:(h:HT)→DV→Option h.D
 |.one q t,v=>t.ofQ q v
 |.agg l,.agg vs=>Ez l vs
 |.agg _,_=>none
def HT.dv:(h:HT)→h.D→DV
 |.one q t,x=>t.dv q x
 |.agg l,x=>.agg (CI l x)
def K6(st:DS):(H:List Hole)→Option (GX H)
 |[]=>some ()
 |[a]=>a.t.of (st.at a.pl)
 | a::b::r=>(match a.t.of (st.at a.pl),K6 st (b::r) with
   |some x,some y=>some (x,y)
   |_,_=>none)
def wrX(st:DS):(H:List Hole)→GX H→DS
 |[],_=>st
 |[a],x=>st.wr (a.t.dv x) a.pl
 |a::b::r,x=>wrX (st.wr (a.t.dv x.1) a.pl) (b::r) x.2
def DV.same:DV→DV→Bool
 |.undef,.undef=>true
 |.nil q,.nil q'=>Em q q'
 |.box i o,.box i' o'=>i == i'&&o == o'
 |.ptr i o,.ptr i' o'=>i == i'&&o == o'
 |_,_=>false
def DV.isAny:DV→Bool
 |.any=>true
 |_=>false
inductive Cls where
 |left|hole (t:HT)|kill
def jx:DV→DV→Option (Ql×CT)
 |.int k _,.int k' _=>if IntKind.same k k' then some (.own,.int k) else none
 |.bool _,.bool _=>some (.own,.bool)
 |.str _,.str _=>some (.own,.str)
 |.ifc _,.ifc _=>some (.own,.ifc)
 |.nil q,.sl q' r _=>if Em q q' then some (q,.sl r) else none
 |.sl q r _,.nil q'=>if Em q q' then some (q,.sl r) else none
 |.sl q r _,.sl q' r' _=>if Em q q'&&RT.beq r' r then some (q,.sl r) else none
 |_,_=>none
def jv:List DV→List DV→Option (List (Ql×CT))
 |[],[]=>some []
 | x::a,y::b=>(match jx x y,jv a b with
   |some t,some l=>some (t::l)
   |_,_=>none)
 |_,_=>none
def jA(x:DV)(y:DC):Cls:=
 if y.d then (if x.isAny||x.same y.v then .left else match x,y.v with
  | .agg a,.agg b=>(match jv a b with
    |some l=>.hole (.agg l)
    |none=>.kill)
  | x,y=>(match jx x y with
    |some t=>.hole (.one t.1 t.2)
    |none=>.kill)) else .left
def JR(pl:Nat→Pl):Nat→List DC→List DC→List Hole×List DC
 | n,x::a,y::b=>(match jA x.v y,JR pl (n+1) a b with
   |.left,(H,l)=>(H,x::l)
   |.hole t,(H,l)=>(⟨pl n,t⟩::H,⟨true,.any⟩::l)
   |.kill,(H,l)=>(H,⟨true,.any⟩::l))
 |_,a,_=>([],a)
def MD(pl:Nat→Nat→Pl):Nat→List (List DC)→List (List DC)→List Hole×List (List DC)
 | n,x::a,y::b=>(match MD pl (n+1) a b with
   |(H,l)=>if x.length == y.length then (match JR (pl n) 0 x y with|(H',x')=>(H'++H,x'::l)) else (H,[]::l))
 |_,a,_=>([],a)
def Q8(x y:DS):List Hole×DS:=
 match JR .s 0 x.sl y.sl,MD .b 0 x.bx y.bx,MD .h 0 x.hp y.hp with
 |(H1,s),(H2,b),(H3,h)=>(H1++H2++H3,⟨s,b,h⟩)
def Rc:List DC→List DC→Bool
 |k::a,y::b=>(k.v.isAny||!y.d||k.v.same y.v)&&Rc a b
 |[],[]=>true
 |_,_=>false
def Q7:List (List DC)→List (List DC)→Bool
 |k::a,y::b=>(k.length == 0||Rc k y)&&Q7 a b
 |[],[]=>true
 |_,_=>false
def Zj(K y:DS):Bool:=Rc K.sl y.sl&&Q7 K.bx y.bx&&Q7 K.hp y.hp
def NJ(K:DS):List Hole→Bool
 |[]=>true
 |a::r=>(K.at a.pl).isAny&&NJ K r
def DV.top:DV→Bool
 |.sl (.bor _ _ t) _ _=>t
 |.sl (.pre _ _) _ _=>true
 |.nil (.bor _ _ t)=>t
 |.nil (.pre _ _)=>true
 |.ep (.bor _ _ t) _ _ _ _=>t
 |.ep (.pre _ _) _ _ _ _=>true
 |.agg _=>true
 |.tup _=>true
 |_=>false
mutual
def DV.hasTop:DV→Bool
 |.agg cs=>DV.hasTopL cs
 |.tup cs=>DV.hasTopL cs
 |v=>v.top
def DV.hasTopL:List DV→Bool
 |[]=>false
 |v::r=>v.hasTop||DV.hasTopL r
end
def Uo (live:List Nat):Nat→List DC→List DC
 |_,[]=>[]
 |n,c::r=>(if live.contains n then (if c.v.hasTop then ⟨true,c.v.detop⟩ else c) else ⟨true,.any⟩)::Uo live (n+1) r
def DF(live:List Nat)(st:DS):DS:={ st with sl:=Uo live 0 st.sl }
def UW(live:List Nat)(st:DS):DS:={ st with sl:=UQ live 0 st.sl }
def QU(live:List Nat)(body:DS→DT)(A:DS):Nat→DS→Option (List Hole×DS)
 | 0,cur=>(match (body cur).norm with
   |.some m=>some (Q8 A (DF live m))
   |_=>none)
 | n + 1,cur=>(match (body cur).norm with
   | .some m=>(match Q8 A (DF live m) with
     | (H,K)=>(match K6 A H with
       |some x0=>QU live body A n (wrX K H x0)
       |none=>none))
   |_=>none)
def NS.isNone:NS→Bool
 |.none=>true
 |_=>false
section
variable (live:List Nat) (body:DS→DT) (K:DS) (H:List Hole)
def lT(x:GX H):DT:=body (wrX K H x)
def On(x:GX H):Bool:=match (lT body K H x).cont with|some b=>b.b|none=>false
def Ol(x:GX H):GX H:=match (lT body K H x).norm with
 |.some m=>(match K6 (DF live m) H with|some y=>y|none=>x)
 |_=>x
def ji(x:GX H):PX:=(lT body K H x).ok.land (match (lT body K H x).norm with
 |.some m=>if Zj K (DF live m)&&(K6 (DF live m) H).isSome then .tt else .ff
 |.none=>.tt
 |.fail=>.ff)
end
def Oj (live:List Nat)(n:Nat)(body:DS→DT)(st:DS):DT:=
 if (body (DF live st)).norm.isNone then (body (DF live st)).map (K4 (DF live st))
 else match QU live body (DF live st) n (DF live st) with
 |none=>.bad
 | some (H,K)=>(match K6 (DF live st) H with
   |none=>.bad
   | some x0=>if NJ K H then
      .chk (.p (LoopOk (On body K H) (Ol live body K H) (fun x=>(ji live body K H x).den) x0))
       ((lT body K H (Am (On body K H) (Ol live body K H) x0)).drop.map (K4 (wrX K H (Am (On body K H) (Ol live body K H) x0))))
     else .bad)
abbrev FE:=List DV→Option (PX×DV)
abbrev De:=List DV→List (List DV)→Option (PX×DV×List (List DV))
structure DMk where
 r:RT
 agg:Bool
 ok:r.D→Prop
 g:r.D→Int→r.D×Int
 vd:Bool
def DMk.P(M:DMk):PMk:=⟨M.agg,fun A4 m K=>∃ x,A4=M.r.enc x∧M.ok x∧K (M.r.enc (M.g x m).1) (M.g x m).2,M.vd⟩
inductive DOp where
 |a (m:Bool) (o:AOp) (ty:Option RT)
 |aw (ws:List (Nat×Nat)) (m:Bool) (o:AOp) (ty:Option RT)
 |call (m:Bool) (f:A3) (p:BI) (D:FE) (args:List Opnd)
 |mark (f:A3) (M:DMk) (x k:Opnd)
 |callp (m:Bool) (f:A3) (p:BI) (D:De) (args:List Opnd)
 |callv (m:Bool) (f:A3) (p:BI) (D:De) (args:List Opnd) (i c:Nat)
structure DOper where
 id:Nat
 dst:Option Nat
 op:DOp
 guard:Option (Nat×Bool)
 anc:List Nat
inductive DCode where
 |skip
 |region (ops:List DOper)
 |regionU (ops:List DOper)
 |seq (l:List Nat) (a b:DCode)
 |cond (c:Opnd) (a b:DCode)
 |block (id:Nat) (a:DCode)
 |loop (live:List Nat) (n:Nat) (a:DCode)
 |exit (id:Nat)
 |ret
def DOp.er:DOp→POp
 |.a m o _=>.a m o
 |.aw ws m o _=>.aw ws m o
 |.call m f p _ args=>.callk m f p args
 |.mark f M x k=>.mark f M.P x k
 |.callp m f p _ args=>.call m f p args
 |.callv m f p _ args i c=>.callv m f p args i c
def DOper.er(o:DOper):POper:=⟨o.id,o.dst,o.op.er,o.guard,o.anc⟩
def DCode.er:DCode→PCode
 |.skip=>.skip
 |.region ops=>.region (ops.map DOper.er)
 |.regionU ops=>.regionU (ops.map DOper.er)
 |.seq l a b=>.seq l a.er b.er
 |.cond c a b=>.cond c a.er b.er
 |.block i a=>.block i a.er
 |.loop l _ a=>.loop l a.er
 |.exit i=>.exit i
 |.ret=>.ret
@[reducible] def oa (i d:Nat) (o:AOp):DOper:=⟨i,some d,.a false o none,none,[]⟩
@[reducible] def ob (i d:Nat) (o:AOp):DOper:=⟨i,some d,.a true o none,none,[]⟩
@[reducible] def om (i d t:Nat):DOper:=⟨i,some d,.a false (.mv (.t t)) none,none,[]⟩
@[reducible] def on (i d t:Nat):DOper:=⟨i,some d,.a true (.mv (.t t)) none,none,[]⟩
@[reducible] def oi (i d:Nat) (n:Int):DOper:=⟨i,some d,.a false (.mv (.c (.int .i64 n))) none,none,[]⟩
@[reducible] def os (i:Nat) (o:AOp):DOper:=⟨i,none,.a false o none,none,[]⟩
@[reducible] def oc (i d:Nat) (f:A3) (p:BI) (D:FE) (args:List Opnd):DOper:=⟨i,some d,.call false f p D args,none,[]⟩
@[reducible] def og (i d:Nat) (o:AOp) (g:Nat) (b:Bool):DOper:=⟨i,some d,.a false o none,some (g,b),[]⟩
@[reducible] def xA (i d:Nat) (o:AOp) (a:List Nat):DOper:=⟨i,some d,.a false o none,none,a⟩
@[reducible] def xB (i d:Nat) (o:AOp) (a:List Nat):DOper:=⟨i,some d,.a true o none,none,a⟩
@[reducible] def xS (i:Nat) (o:AOp) (a:List Nat):DOper:=⟨i,none,.a false o none,none,a⟩
@[reducible] def op (i d:Nat) (f:A3) (p:BI) (D:De) (args:List Opnd):DOper:=⟨i,some d,.callp false f p D args,none,[]⟩
def iq:Nat→Nat→List Nat
 |_,0=>[]
 |k,n+1=>k::iq (k+1) n
def rg(n:Nat):List Nat:=iq 0 n
def Ed:List Opnd→DS→DS
 |[],st=>st
 |x::r,st=>Ed r (L6 x st).2
def EF(s:List DC):List Opnd→List DV
 |[]=>[]
 |x::r=>x.dev s::EF s r
def Mv(D:FE)(args:List Opnd)(st:DS):D1:=
 let as:=EF st.sl args
 if Ho as&&!(DV.hasPtrL as) then (match D (DV.fzL as) with
  |some (g,v)=>if v.ok&&!v.hasPtr&&(v.deep||!(DV.holdL as)) then some (g,v,st) else none
  |none=>none)
 else none
def Ql.isH':Ql→Bool
 |.bor (.h _) _ _=>true
 |.pre (.h _) _=>true
 |_=>false
mutual
def DV.isH:DV→Bool
 |.nil q=>q.isH'
 |.sl q _ _=>q.isH'
 |.ep q _ _ _ _=>q.isH'
 |.agg cs=>DV.isHL cs
 |.tup vs=>DV.isHL vs
 |_=>false
def DV.isHL:List DV→Bool
 |[]=>false
 |v::r=>v.isH||DV.isHL r
end
def QF:List DC→List DC
 |[]=>[]
 |c::r=>(if c.v.isH then ⟨true,.any⟩ else c)::QF r
def GV:List (List DC)→List (List DV)
 |[]=>[]
 |b::r=>Bv b::GV r
def newsB:List (List DV)→List (List DC)
 |[]=>[]
 |b::r=>news b::newsB r
def MC:List DC→List DV→List DC
 |[],vs=>news vs
 |c::r,[]=>c::r
 |c::r,v::vs=>(if v.isAny then c else ⟨true,v⟩)::MC r vs
def Mz:List (List DC)→List (List DV)→List (List DC)
 |[],vs=>newsB vs
 |c::r,[]=>c::r
 |c::r,v::vs=>MC c v::Mz r vs
def Fc:List DV→List DV→List DV
 |[],vs=>vs
 |c::r,[]=>c::r
 |c::r,v::vs=>(if v.isAny then c else v)::Fc r vs
def Iy:List (List DV)→List (List DV)→List (List DV)
 |[],vs=>vs
 |c::r,[]=>c::r
 |c::r,v::vs=>Fc c v::Iy r vs
def U6:List (List DV)→Bool
 |[]=>true
 |b::r=>Nat.blt 0 b.length&&DV.okL b&&U6 r
def Gc:List (List DV)→List (List PV)
 |[]=>[]
 |b::r=>DV.encL b::Gc r
def DV.isP0:DV→Bool
 |.ptr 0 0=>true
 |_=>false
def JJ(D:De)(args:List Opnd)(st:DS):D1:=
 let as:=EF st.sl args
 if Ho as&&!(DV.holdL as)&&U6 (GV st.hp) then
  (if DV.hasPtrL as then (match D (DV.fzL as) (GV st.hp) with
   |some (g,v,H)=>if v.ok&&!v.hasPtr then some (g,v,{ st with sl:=QF st.sl,hp:=Mz st.hp H }) else none
   |none=>none)
  else if st.hp.length == 0 then (match D (DV.fzL as) [] with
   |some (g,v,H)=>if v.isP0 then some (g,v,{ st with hp:=newsB H }) else none
   |none=>none)
  else none)
 else none
def DV.ownS:DV→Bool
 |.sl .own _ _|.nil .own=>true
 |_=>false
def Qq(i c:Nat)(D:De)(args:List Opnd)(st:DS):D1:=
 if DV.hasPtrL (EF st.sl args)&&(BU st (.b i) [c]).ownS then JJ D args st else none
def DV.isAgg:DV→Bool
 |.agg _=>true
 |_=>false
def DV.flatc:DV→Bool
 |.bool _|.int _ _|.str _|.ifc _=>true
 |_=>false
def UN:Nat→List DV→Option (Hd×Nat)
 |_,[]=>none
 |c,.sl (.bor hd [p] true) _ _::_=>if Nat.ble c p&&hd.sb then some (hd,p-c) else none
 |c,.nil (.bor hd [p] true)::_=>if Nat.ble c p&&hd.sb then some (hd,p-c) else none
 |c,_::r=>UN (c+1) r
def Gi(st:DS)(hd:Hd):Nat→List DV→Option (PX×List DV)
 |_,[]=>some (.tt,[])
 |c,.sl q _ l::vs=>if Em q (.bor hd [c] true) then (match BU st hd [c],Gi st hd (c+1) vs with
  |.sl .own r' l',some (g,os)=>some (PX.land (.p (l.length=l'.length)) g,.sl .own r' l'::os)
  |.nil .own,some (g,os)=>some (PX.land (.p (l.length=0)) g,.nil .own::os)
  |_,_=>none) else none
 |c,.nil q::vs=>if Em q (.bor hd [c] true) then (match BU st hd [c],Gi st hd (c+1) vs with
  |.sl .own r' l',some (g,os)=>some (PX.land (.p (l'.length=0)) g,.sl .own r' l'::os)
  |.nil .own,some (g,os)=>some (g,.nil .own::os)
  |_,_=>none) else none
 |c,v::vs=>if v.flatc then (match Gi st hd (c+1) vs with
  |some (g,os)=>some (g,v::os)
  |none=>none) else none
def HJ(hd:Hd):Nat→List DV→DS→Option DS
 |_,[],st=>some st
 | c,.sl q r l::vs,st=>(match BU st hd [c] with
   |.sl .own _ _=>HJ hd (c+1) vs (Gd st (.sl q r l) hd [c])
   |.nil .own=>HJ hd (c+1) vs (Gd st (.sl q r l) hd [c])
   |_=>none)
 |_,.nil _::_,_=>none
 |c,_::vs,st=>HJ hd (c+1) vs st
def Mr (M:DMk)(x k:Opnd)(st:DS):D1:=
 match k.dev st.sl with
 | .int .i64 m=>if (x.dev st.sl).isAgg == M.agg&&(x.dev st.sl).argok then (match UN 0 (x.dev st.sl).cells with
   | some (hd,b)=>(match Gi st hd b (x.dev st.sl).cells with
     | some (g,os)=>(match M.r.of os with
       | some y=>(match HJ hd b (M.r.dv .own (M.g y m).1) st with
         |some st'=>some (g.land (.p (M.ok y)),(match M.vd with|true=>.undef|false=>.int .i64 (M.g y m).2),st')
         |none=>none)
       |none=>none)
     |none=>none)
   |none=>none) else none
 |_=>none
def CG(o:DOp)(d:Option Nat)(k:DS→DT)(st:DS):DT:=
 match o with
 | .call m _ _ D args=>(match Mv D args (if m then Ed args st else st) with
   |some (g,v,st)=>DT.chk' g (k (st.put d v))
   |none=>.bad)
 | .callp m _ _ D args=>(match JJ D args (if m then Ed args st else st) with
   |some (g,v,st)=>DT.chk' g (k (st.put d v))
   |none=>.bad)
 | .callv m _ _ D args i c=>(match Qq i c D args (if m then Ed args st else st) with
   |some (g,v,st)=>DT.chk' g (k (st.put d v))
   |none=>.bad)
 | .aw ws m o ty=>(match Mk ws m o ty st with
   |some (g,v,st)=>DT.chk' g (k (st.put d v))
   |none=>.bad)
 | .mark _ M x y=>(match Mr M x y st with
   |some (g,v,st)=>DT.chk' g (k (st.put d v))
   |none=>.bad)
 | .a m o ty=>(match o with
   | .pick c a b=>(match c.dev st.sl with
     | .bool (.lit t)=>(match if t then A7 a st else A7 b st with
       |(v,st)=>if v.ok then k (st.put d v) else .bad)
     | .bool (.dyn t)=>
       if (a.dev st.sl).own||(b.dev st.sl).own||!(CR t (a.dev st.sl) (b.dev st.sl)).ok then .node t (match A7 a st with|(v,st)=>if v.ok then k (st.put d v) else .bad) (match A7 b st with|(v,st)=>if v.ok then k (st.put d v) else .bad)
       else k (st.put d (CR t (a.dev st.sl) (b.dev st.sl)))
     |_=>.bad)
   | o=>(match Bs m o ty st with
     |some (g,v,st)=>DT.chk' g (k (st.put d v))
     |none=>.bad))
def MB(st:DS)(g:Nat)(b:Bool):DS:={ st with sl:=C4 st.sl g (.bool (.lit b)) }
def Ov(o:DOper)(k:DS→DT)(st:DS):DT:=
 match o.guard with
 |none=>CG o.op o.dst k st
 | some (g,want)=>(match Bj st.sl g with
   |.bool (.lit b)=>if b == want then CG o.op o.dst k st else k (st.put o.dst (.tup []))
   |.bool (.dyn b)=>.node b (if want then CG o.op o.dst k (MB st g true) else k ((MB st g true).put o.dst (.tup []))) (if want then k ((MB st g false).put o.dst (.tup [])) else CG o.op o.dst k (MB st g false))
   |.tup []=>k (st.put o.dst (.tup []))
   |_=>.bad)
def IB:List DOper→DS→DT
 |[],st=>.leaf .normal st
 |o::r,st=>Ov o (IB r) st
def setc(st:DS)(c:Opnd)(b:Bool):DS:=match c with
 |.t g=>MB st g b
 |.c _=>st
def dev:DCode→DS→DT
 |.skip,st=>.leaf .normal st
 |.region ops,st=>IB ops st
 |.regionU ops,st=>if QW (ops.map DOper.er) then IB ops st else .bad
 |.seq l a b,st=>(dev a st.clean).then (fun st'=>dev b (K4 st (UW l st'))) (K4 st)
 | .cond c a b,st=>(match c.dev st.sl with
   |.bool (.lit t)=>if t then dev a st else dev b st
   |.bool (.dyn t)=>.node t (dev a (setc st c true)) (dev b (setc st c false))
   |_=>.bad)
 |.block i a,st=>(dev a st).unexit i
 |.loop live n a,st=>Oj live n (fun st=>dev a st.clean) st
 |.exit i,st=>.leaf (.exit i) st
 |.ret,st=>.leaf .ret st
structure DFun where
 nparams:Nat
 nslots:Nat
 nbox:Nat
 pure:Bool
 res:List ARes
 body:DCode
def DFun.er(f:DFun):PFun:=⟨f.nparams,f.nslots,f.nbox,f.pure,f.res,f.body.er⟩
def JI(st:DS):ARes→Option (DV×DS)
 |.tmp t=>if (Bj st.sl t).retok&&(Bj st.sl t).ok then some (Q5 (Bj st.sl t) t st) else none
 | .cell t n=>(match Bj st.sl t with
   |.box i o=>if Nat.ble (o+n.getD 1) (Bz st.bx i).length&&Iw (BO (Bv (Bz st.bx i)) o (n.getD 1)) then (Mg true i n (.box i o) st).map (·.2) else none
   |.ptr i o=>if Nat.ble (o+n.getD 1) (Bz st.hp i).length&&Iw (BO (Bv (Bz st.hp i)) o (n.getD 1)) then (KI true n (.ptr i o) st).map (·.2) else none
   |_=>none)
def Hp(st:DS):List ARes→Option (List DV×DS)
 |[]=>some ([],st)
 | r :: rs=>(match JI st r with
   | some (v,st)=>(match Hp st rs with
     |some (vs,st)=>some (v::vs,st)
     |none=>none)
   |none=>none)
def Gb(st:DS):List ARes→Option DV
 |[r]=>(JI st r).map (·.1)
 |rs=>(Hp st rs).map fun x=>.tup x.1
def DT.val(res:List ARes):DT→PX×Option DV
 |.leaf (.exit _) _=>(.ff,none)
 | .leaf _ st=>(match Gb st res with
   |some v=>if v.ok&&!v.hasPtr then (.tt,some v) else (.ff,none)
   |none=>(.ff,none))
 | .node c a b=>(match a.val res,b.val res with
   |(g,none),(g',y)=>(PX.if' c g g',y)
   |(g,x),(g',none)=>(PX.if' c g g',x)
   |(g,some x),(g',some y)=>(PX.if' c g g',some (CR c x y)))
 | .chk g t=>(match t.val res with
   |(g',v)=>(g.land g',v))
 |.bad=>(.ff,none)
def F1(n:Nat):List DC:=match n with
 |0=>[]
 |n+1=>⟨true,.any⟩::F1 n
def F3:Nat→List (List DC)
 |0=>[]
 |n+1=>[]::F3 n
def Rg(f:DFun)(args:List DV):PX×Option DV:=
 (dev f.body ⟨news args++F1 (f.nslots-f.nparams),F3 f.nbox,[]⟩).val f.res
end
def EC(c:DC)(p:PV):Prop:=c.v= .any∨p=c.v.enc
def EL:List DC→List PV→Prop
 |[],[]=>True
 |c::a,p::b=>EC c p∧EL a b
 |_,_=>False
def EBx(b:List DC)(p:List PV):Prop:=b=[]∨EL b p
def EB:List (List DC)→List (List PV)→Prop
 |[],[]=>True
 |c::a,p::b=>EBx c p∧EB a b
 |_,_=>False
structure ES (d:DS) (s:PS):Prop where
 sl:EL d.sl s.sl
 bx:EB d.bx s.bx
 hp:EB d.hp s.hp
theorem EL.len:∀ {a:List DC} {b:List PV},EL a b→a.length=b.length
 |[],[],_=>rfl
 |_::_,_::_,h=>by simp only[AG,EL.len h.2]
theorem EB.len:∀ {a:List (List DC)} {b:List (List PV)},EB a b→a.length=b.length
 |[],[],_=>rfl
 |_::_,_::_,h=>by simp only[AG,EB.len h.2]
def EV(v:DV)(p:PV):Prop:=v= .any∨p=v.enc
theorem EL.get:∀ {a:List DC} {b:List PV} (n:Nat),EL a b→EV (Bj a n) (Aa b n)
 |[],[],_,_=>.inl rfl
 |_::_,_::_,0,h=>h.1
 |_::_,_::_,n+1,h=>EL.get n h.2
theorem EL.put:∀ {a:List DC} {b:List PV} {v:DV} {p:PV} (n:Nat),EL a b→EV v p→EL (C4 a n v) (BB b n p)
 |[],[],_,_,_,_,_=>trivial
 |_::_,_::_,_,_,0,h,hv=>⟨hv,h.2⟩
 |_::_,_::_,_,_,n+1,h,hv=>⟨h.1,EL.put n h.2 hv⟩
theorem EB.get:∀ {a:List (List DC)} {b:List (List PV)} (n:Nat),EB a b→EBx (Bz a n) (Al b n)
 |[],[],_,_=>.inl rfl
 |_::_,_::_,0,h=>h.1
 |_::_,_::_,n+1,h=>EB.get n h.2
theorem EB.put:∀ {a:List (List DC)} {b:List (List PV)} {v:List DC} {p:List PV} (n:Nat),EB a b→EBx v p→EB (E8 a n v) (BQ b n p)
 |[],[],_,_,_,_,_=>trivial
 |_::_,_::_,_,_,0,h,hv=>⟨hv,h.2⟩
 |_::_,_::_,_,_,n+1,h,hv=>⟨h.1,EB.put n h.2 hv⟩
theorem Es:∀ (l:List DV),(DV.encL l).length=l.length
 |[]=>rfl
 |_::r=>by simp only[DV.encL,AG,Es r]
theorem EL.splice:∀ {a:List DC} {b:List PV} (n:Nat) (vs:List DV),EL a b→EL (Ie a n vs) (Aw b n (DV.encL vs))
 |[],[],_,[],_=>trivial
 |[],[],_,_::_,_=>trivial
 |_::_,_::_,0,[],h=>h
 |_::_,_::_,_+1,[],h=>h
 |_::_,_::_,0,v::vs,h=>⟨.inr rfl,EL.splice 0 vs h.2⟩
 |_::_,_::_,n+1,v::vs,h=>⟨h.1,EL.splice n (v::vs) h.2⟩
theorem Py:∀ (cs:List DV) (n:Nat) (vs:List DV),DV.encL (Ic cs n vs)=Aw (DV.encL cs) n (DV.encL vs)
 |[],_,[]=>rfl
 |_::_,0,[]=>rfl
 |_::_,_+1,[]=>rfl
 |[],0,_::_=>rfl
 |[],_+1,_::_=>rfl
 |_::r,0,v::vs=>by simp only[Ic,DV.encL,Aw,Py r 0 vs]
 |c::r,n+1,v::vs=>by simp only[Ic,DV.encL,Aw,Py r n (v::vs)]
theorem Tj:∀ (cs:List DV) (o n:Nat),DV.encL (BO cs o n)=segm (DV.encL cs) o n
 |[],0,0=>rfl
 |[],0,_+1=>rfl
 |[],_+1,_=>rfl
 |_::_,0,0=>rfl
 |c::r,0,n+1=>by simp only[BO,DV.encL,segm,Tj r 0 n]
 | _::r,o+1,n=>by
   simp only[BO,DV.encL,segm];exact Tj r o n
theorem NF:∀ (cs:List DV) (n:Nat),(Gm cs n).enc=Aa (DV.encL cs) n
 |[],_=>rfl
 |_::_,0=>rfl
 |_::r,n+1=>NF r n
theorem TQ:∀ (cs:List DV) (n:Nat) (v:DV),DV.encL (OA cs n v)=BB (DV.encL cs) n v.enc
 |[],_,_=>rfl
 |_::_,0,_=>rfl
 |_::r,n+1,v=>by simp only[OA,DV.encL,BB,TQ r n v]
theorem EL.segm:∀ {a:List DC} {b:List PV} (o n:Nat),EL a b→DV.okL (BO (Bv a) o n)=true→Go.Ag.segm b o n=DV.encL (BO (Bv a) o n)
 |[],[],0,0,_,_=>rfl
 |[],[],0,_+1,_,_=>rfl
 |[],[],_+1,_,_,_=>rfl
 |_::_,_::_,0,0,_,_=>rfl
 | c::r,p::s,0,n+1,h,hk=>by
   simp only[Bv,BO,DV.okL,Ah] at hk
   simp only[Bv,BO,Go.Ag.segm,DV.encL]
   rw[EL.segm 0 n h.2 hk.2]
   rcases h.1 with h1|h1
   · rw[h1] at hk;cases hk.1
   · rw[h1]
 | _::r,_::s,o+1,n,h,hk=>by
   simp only[Bv,BO,Go.Ag.segm] at hk ⊢
   exact EL.segm o n h.2 hk
theorem PR:∀ (a:List DC),(Bv a).length=a.length
 |[]=>rfl
 |_::r=>by simp only[Bv,AG,PR r]
theorem EL.news:∀ (vs:List DV),EL (Go.Ag.news vs) (DV.encL vs)
 |[]=>trivial
 |_::r=>⟨.inr rfl,EL.news r⟩
theorem gd(q:Ql)(es:List (List PV)):(PV.sl q es).own=q.own':=by cases q<;>rfl
theorem gF(q:Ql)(hd:Hd)(es:List (List PV)):(PV.sl q es).bor hd=q.bor' hd:=by cases q<;>rfl
theorem tS(q:Ql)(hd:Hd)(es:List (List PV))(j o:Nat):(PV.ep q es j o).bor hd=q.bor' hd:=by cases q<;>rfl
mutual
theorem Jx:∀ (v:DV),v.enc.own=v.own
 |.any|.undef|.bool _|.int _ _|.str _|.ifc _|.box _ _|.ptr _ _=>rfl
 |.nil q=>gd q []
 |.sl q _ _=>gd q _
 |.ep q _ _ _ _=>by cases q<;>rfl
 |.agg cs=>NG cs
 |.tup vs=>NG vs
theorem NG:∀ (l:List DV),PV.ownL (DV.encL l)=DV.ownL l
 |[]=>rfl
 |v::r=>by simp only[DV.encL,PV.ownL,DV.ownL,Jx v,NG r]
end
mutual
theorem T4(hd:Hd):∀ (v:DV),v.enc.bor hd=v.bor hd
 |.any|.undef|.bool _|.int _ _|.str _|.ifc _|.box _ _|.ptr _ _=>rfl
 |.nil q=>gF q hd []
 |.sl q _ _=>gF q hd _
 |.ep q _ _ _ _=>tS q hd _ _ _
 |.agg cs=>Xh hd cs
 |.tup vs=>Xh hd vs
theorem Xh(hd:Hd):∀ (l:List DV),PV.borL hd (DV.encL l)=DV.borL hd l
 |[]=>rfl
 |v::r=>by simp only[DV.encL,PV.borL,DV.borL,T4 hd v,Xh hd r]
end
mutual
theorem tx:∀ (v:DV),v.enc.hold=v.hold
 |.any|.undef|.bool _|.int _ _|.str _|.ifc _|.box _ _|.ptr _ _=>rfl
 |.nil q=>by cases q<;>rfl
 |.sl q _ _=>by cases q<;>rfl
 |.ep q _ _ _ _=>by cases q<;>rfl
 |.agg cs=>PK cs
 |.tup vs=>PK vs
theorem PK:∀ (l:List DV),PV.holdL (DV.encL l)=DV.holdL l
 |[]=>rfl
 |v::r=>by simp only[DV.encL,PV.holdL,DV.holdL,tx v,PK r]
end
mutual
theorem ib:∀ (v:DV),v.fz.enc=v.enc.fz
 |.any|.undef|.bool _|.int _ _|.str _|.ifc _|.box _ _|.ptr _ _|.nil _|.sl _ _ _|.ep _ _ _ _ _=>rfl
 |.agg cs=>by simp only[DV.fz,DV.enc,PV.fz,N3 cs]
 |.tup cs=>by simp only[DV.fz,DV.enc,PV.fz,N3 cs]
theorem N3:∀ (l:List DV),DV.encL (DV.fzL l)=PV.fzL (DV.encL l)
 |[]=>rfl
 |v::r=>by simp only[DV.encL,PV.fzL,DV.fzL,ib v,N3 r]
end
mutual
theorem WS:∀ (v:DV),v.detop.enc=v.enc.detop
 |.any|.undef|.bool _|.int _ _|.str _|.ifc _|.box _ _|.ptr _ _=>rfl
 |.nil q=>by cases q<;>rfl
 |.sl q _ _=>by cases q<;>rfl
 |.ep q _ _ _ _=>by cases q<;>rfl
 |.agg cs=>by simp only[DV.detop,DV.enc,PV.detop,Wm cs]
 |.tup cs=>by simp only[DV.detop,DV.enc,PV.detop,Wm cs]
theorem Wm:∀ (l:List DV),DV.encL (DV.detopL l)=PV.detopL (DV.encL l)
 |[]=>rfl
 |v::r=>by simp only[DV.encL,PV.detopL,DV.detopL,WS v,Wm r]
end
mutual
theorem S4:∀ (v:DV),v.enc.hasPtr=v.hasPtr
 |.any|.undef|.bool _|.int _ _|.str _|.ifc _|.box _ _|.ptr _ _|.nil _|.sl _ _ _|.ep _ _ _ _ _=>rfl
 |.agg cs=>Kk cs
 |.tup vs=>Kk vs
theorem Kk:∀ (l:List DV),PV.hasPtrL (DV.encL l)=DV.hasPtrL l
 |[]=>rfl
 |v::r=>by simp only[DV.encL,PV.hasPtrL,DV.hasPtrL,S4 v,Kk r]
end
mutual
theorem gR:∀ (t:CT) (x:t.D),(CT.enc t x).deep=true
 |.int _,_|.bool,_|.str,_|.ifc,_=>rfl
 | .sl r,l=>by
   simp only[CT.enc,PV.deep]
   exact Xa r l
theorem fX:∀ (r:RT) (x:r.D),PV.deepL (RT.enc r x)=true
 |.one t,x=>by simp only[RT.enc,PV.deepL,gR t x,CL]
 |.cons t r,x=>by simp only[RT.enc,PV.deepL,gR t x.1,fX r x.2,CL]
theorem Xa:∀ (r:RT) (l:List r.D),PV.deepE (l.map (RT.enc r))=true
 |_,[]=>rfl
 |r,x::l=>by simp only[Cd,PV.deepE,fX r x,Xa r l,CL]
end
theorem EL.clr(hd:Hd):∀ {a:List DC} {b:List PV},EL a b→EL (C6 hd a) (Go.Ag.clr hd b)
 |[],[],_=>trivial
 | c :: _,p::_,h=>by
   refine⟨?_,EL.clr hd h.2⟩
   by_cases hb:c.v.bor hd=true
   · rw[Ab hb];exact .inl rfl
   · rw[Ad hb]
     rcases h.1 with h1|h1
     · exact .inl h1
     · rw[h1,T4,Ad hb];exact .inr rfl
theorem rS(i:Nat)(v:DV):v.enc.isBox i=v.isBox i:=by cases v<;>rfl
theorem EL.clearBox(i:Nat):∀ {a:List DC} {b:List PV},EL a b→EL (PH i a) (FR i b)
 |[],[],_=>trivial
 | c :: _,p::_,h=>by
   refine⟨?_,EL.clearBox i h.2⟩
   by_cases hb:c.v.isBox i=true
   · rw[Ab hb];exact .inl rfl
   · rw[Ad hb]
     rcases h.1 with h1|h1
     · exact .inl h1
     · rw[h1,rS,Ad hb];exact .inr rfl
theorem EL.trim(live:List Nat):∀ {a:List DC} {b:List PV} (n:Nat),EL a b→EL (UQ live n a) (FA live n b)
 |[],[],_,_=>trivial
 | c::_,p::_,n,h=>by
   refine⟨?_,EL.trim live (n+1) h.2⟩
   by_cases hb:live.contains n=true
   · rw[Ab hb,Ab hb];exact h.1
   · rw[Ad hb];exact .inl rfl
mutual
theorem eB:∀ (v:DV),v.hasTop=false→v.detop=v
 |.any,_|.undef,_|.bool _,_|.int _ _,_|.str _,_|.ifc _,_|.box _ _,_|.ptr _ _,_=>rfl
 |.nil q,h=>by cases q<;>first|rfl|(simp only[DV.hasTop,DV.top] at h;first|(subst h;rfl)|cases h)
 |.sl q _ _,h=>by cases q<;>first|rfl|(simp only[DV.hasTop,DV.top] at h;first|(subst h;rfl)|cases h)
 |.ep q _ _ _ _,h=>by cases q<;>first|rfl|(simp only[DV.hasTop,DV.top] at h;first|(subst h;rfl)|cases h)
 |.agg cs,h=>by simp only[DV.hasTop] at h;simp only[DV.detop,WR cs h]
 |.tup cs,h=>by simp only[DV.hasTop] at h;simp only[DV.detop,WR cs h]
theorem WR:∀ (l:List DV),DV.hasTopL l=false→DV.detopL l=l
 |[],_=>rfl
 | v::r,h=>by
   simp only[DV.hasTopL,CD] at h
   simp only[DV.detopL,eB v h.1,WR r h.2]
end
theorem EL.keep(live:List Nat):∀ {a:List DC} {b:List PV} (n:Nat),EL a b→EL (Uo live n a) (Eh live n b)
 |[],[],_,_=>trivial
 | c :: _,p::_,n,h=>by
   refine⟨?_,EL.keep live (n+1) h.2⟩
   by_cases hb:live.contains n=true
   · rw[Ab hb,Ab hb]
     rcases h.1 with h1|h1
     · rw[h1];exact .inl h1
     · by_cases ht:c.v.hasTop=true
       · rw[Ab ht,h1];exact .inr (WS c.v).symm
       · rw[Ad ht,h1,← WS,eB c.v (by simpa using ht)];exact .inr rfl
   · rw[Ad hb];exact .inl rfl
theorem EL.clean:∀ {a:List DC} {b:List PV},EL a b→EL (Go.Ag.clean a) b
 |[],[],_=>trivial
 |_::_,_::_,h=>⟨h.1,EL.clean h.2⟩
theorem EBx.clean{a:List DC}{b:List PV}(h:EBx a b):EBx (Go.Ag.clean a) b:=by
 rcases h with rfl|h
 · exact .inl rfl
 · exact .inr h.clean
theorem EB.clean:∀ {a:List (List DC)} {b:List (List PV)},EB a b→EB (Of a) b
 |[],[],_=>trivial
 |_::_,_::_,h=>⟨h.1.clean,EB.clean h.2⟩
theorem ES.clean{d:DS}{s:PS}(h:ES d s):ES d.clean s:=⟨h.sl.clean,h.bx.clean,h.hp.clean⟩
theorem ES.trim{d:DS}{s:PS}(l:List Nat)(h:ES d s):ES (UW l d) { s with sl:=FA l 0 s.sl }:=⟨h.sl.trim l 0,h.bx,h.hp⟩
theorem ES.keep{d:DS}{s:PS}(l:List Nat)(h:ES d s):ES (DF l d) { s with sl:=Eh l 0 s.sl }:=⟨h.sl.keep l 0,h.bx,h.hp⟩
theorem EL.rem:∀ {x a:List DC} {b:List PV},EL a b→EL (Oz x a) b
 |[],[],[],_=>trivial
 |[],_::_,_::_,h=>h
 |_::_,[],[],_=>trivial
 |_::_,_::_,_::_,h=>⟨h.1,EL.rem h.2⟩
theorem EBx.rem{x a:List DC}{b:List PV}(h:EBx a b):EBx (Oz x a) b:=by
 rcases h with rfl|h
 · cases x<;>exact .inl rfl
 · exact .inr h.rem
theorem EB.rem:∀ {x a:List (List DC)} {b:List (List PV)},EB a b→EB (Q4 x a) b
 |[],[],[],_=>trivial
 |[],_::_,_::_,h=>h
 |_::_,[],[],_=>trivial
 |_::_,_::_,_::_,h=>⟨h.1.rem,EB.rem h.2⟩
theorem ES.rem{x d:DS}{s:PS}(h:ES d s):ES (K4 x d) s:=⟨h.sl.rem,h.bx.rem,h.hp.rem⟩
theorem ES.put{d:DS}{s:PS}(x:Option Nat)(v:DV)(h:ES d s):ES (d.put x v) (s.put x v.enc):=by
 cases x with
 |none=>exact h
 | some n=>
   simp only[DS.put,PS.put,Jx];by_cases ho:v.own=true
   · rw[Ab ho,Ab ho];exact⟨(h.sl.put n (.inr rfl)).clr _,h.bx,h.hp⟩
   · rw[Ad ho,Ad ho];exact⟨h.sl.put n (.inr rfl),h.bx,h.hp⟩
theorem TI(v:V)(h:IG v≠.any):(IG v).enc=Bo v:=by
 cases v<;>first|rfl|skip
 case tup vs=>cases vs<;>rfl
theorem Ep{d:DS}{s:PS}(x:Opnd)(h:ES d s)(hk:(A7 x d).1.ok=true):(mvOut x s).1=(A7 x d).1.enc∧ES (A7 x d).2 (mvOut x s).2:=by
 cases x with
 | c v=>
   refine⟨?_,h⟩;refine(TI v fun he=>?_).symm;simp only[A7,he,DV.ok,AL] at hk
 | t n =>
   simp only[A7,Q5,mvOut,EG] at hk ⊢;rcases h.sl.get n with hg|hg
   · rw[hg] at hk;simp only[DV.own,AL,AX,DV.ok] at hk
   · rw[hg,Jx,T4];by_cases ho:(Bj d.sl n).own=true
     · simp only[ho,AN] at hk ⊢;by_cases hb:(Bj d.sl n).bor (.s n)=true
       · simp only[hb,AN,DV.ok,AL] at hk
       · simp only[hb] at hk ⊢;exact⟨rfl,(h.sl.put n (.inl rfl)).clr _,h.bx,h.hp⟩
     · simp only[ho] at hk ⊢;exact⟨rfl,h⟩
theorem sI(v:DV)(h:v.cell=true):v.enc.cell=true:=by
 cases v<;>first|rfl|cases h|skip
 case nil q=>cases q<;>first|rfl|cases h
 case sl q r l=>cases q<;>first|rfl|cases h
theorem LP:∀ (l:List DV),CZ l=true→Bi (DV.encL l)=true
 |[],_=>rfl
 | v::r,h=>by
   simp only[CZ,Ah] at h
   simp only[DV.encL,Bi,sI v h.1,LP r h.2,CL]
theorem uz(v:DV)(h:v.cell=true):v.ok=true:=by cases v<;>first|rfl|cases h
theorem dw:∀ (l:List DV),CZ l=true→DV.okL l=true
 |[],_=>rfl
 | v::r,h=>by
   simp only[CZ,Ah] at h
   simp only[DV.okL,uz v h.1,dw r h.2,CL]
theorem Jn(v:DV):v.enc.cells=DV.encL v.cells:=by cases v<;>rfl
theorem PZ(v:DV)(h:CZ v.cells=true):v.ok=true:=by
 cases v<;>first|rfl|(simp only[DV.cells,CZ,DV.cell,KU,AL] at h)|skip
 case agg cs=>exact dw cs h
theorem Xg(v:DV)(h:v.retc=true):v.enc.retc=true:=by
 cases v<;>first|rfl|cases h|skip
 case nil q=>cases q<;>first|rfl|cases h
 case sl q r l=>cases q<;>first|rfl|cases h
theorem TC:∀ (l:List DV),Iw l=true→EE (DV.encL l)=true
 |[],_=>rfl
 | v::r,h=>by
   simp only[Iw,Ah] at h
   simp only[DV.encL,EE,Xg v h.1,TC r h.2,CL]
theorem qD(v:DV)(h:v.retok=true):v.enc.retok=true:=by
 cases v<;>first|rfl|cases h|skip
 case nil q=>exact Xg (.nil q) h
 case sl q r l=>exact Xg (.sl q r l) h
 case agg cs=>exact TC cs h
theorem ft(v:DV)(h:v.argc=true):v.enc.argc=true:=by cases v<;>first|rfl|cases h
theorem fS:∀ (l:List DV),UP l=true→IF (DV.encL l)=true
 |[],_=>rfl
 | v::r,h=>by
   simp only[UP,Ah] at h
   simp only[DV.encL,IF,ft v h.1,fS r h.2,CL]
theorem dC(v:DV)(h:v.argok=true):v.enc.argok=true:=by
 cases v<;>first|rfl|cases h|exact ft _ h|skip
 case agg cs=>exact fS cs h
theorem S5:∀ (l:List DV),Ho l=true→Ip (DV.encL l)=true
 |[],_=>rfl
 | v::r,h=>by
   simp only[Ho,Ah] at h
   simp only[DV.encL,Ip,dC v h.1,S5 r h.2,CL]
theorem Opnd.dev_ev{d:DS}{s:PS}(h:ES d s)(x:Opnd):EV (x.dev d.sl) (x.pev s.sl):=by
 cases x with
 |t n=>exact h.sl.get n
 | c v=>
   by_cases hv:IG v= .any
   · exact .inl hv
   · exact .inr (TI v hv).symm
theorem EV.of{v:DV}{p:PV}(h:EV v p)(hn:v≠.any):p=v.enc:=h.resolve_left hn
theorem nJ{op:BinOp}{k:IntKind}{a b:Int}{g:PX}{v:DV}(h:T9 op k a b=some (g,v))(hg:g.den):(Ig op k a b).map PV.fl=some v.enc:=by
 cases op<;>simp only[T9,dI,dB,Aj,Ak,reduceCtorEq] at h<;>obtain⟨rfl,rfl⟩:=h<;>simp only[Ig,iN,ig,iW,X7,X4,Yi,we,vR,q8,UM,jd,jg,jn,iY,jk,DV.enc,BX.b,Cc]
 · rw[Ad (show ¬ b=0 from hg)];rfl
 · rw[Ad (show ¬ b=0 from hg)];rfl
theorem bH{op:BinOp}{k:IntKind}{a b:Int}{g:PX}{v:DV}(h:Ux op k a b=some (g,v))(hg:g.den):(LS op k a b).map PV.fl=some v.enc:=by
 cases op<;>simp only[Ux,Aj,Ak,reduceCtorEq] at h<;>obtain⟨rfl,rfl⟩:=h<;>simp only[LS,vN,iE,DV.enc]<;>rw[Ad (show ¬ b<0 from Int.not_lt.mpr hg)]<;>rfl
theorem T5{k k':IntKind}(h:IntKind.same k k'=true):k=k':=by simpa [IntKind.same] using h
theorem pK{op:BinOp}{a b:DV}{p q:PV}{g:PX}{v:DV}(ha:EV a p)(hb:EV b q)(h:OD op a b=some (g,v))(hg:g.den):Ou op p q=some v.enc:=by
 cases a<;>try (simp only[OD,reduceCtorEq] at h)
 case int k a=>
  cases b<;>try (simp only[OD,reduceCtorEq] at h)
  case int k' b=>
   rw[ha.of (by simp),hb.of (by simp)];simp only[DV.enc,Ou,HG];by_cases h1:op= .shl
   · subst h1;exact bH h hg
   · by_cases h2:op= .shr
     · subst h2;exact bH h hg
     · have h3:(if IntKind.same k k'=true then T9 op k a b else none)=some (g,v):=by cases op<;>first|exact h|exact absurd rfl h1|exact absurd rfl h2
       by_cases hk:IntKind.same k k'=true
       · rw[Ab hk] at h3;have:=T5 hk;subst this;have h4:=nJ h3 hg
         cases op<;>simp only[AN]<;>first|exact h4|exact absurd rfl h1|exact absurd rfl h2
       · rw[Ad hk] at h3;cases h3
 case str a=>
  cases b<;>try (simp only[OD,reduceCtorEq] at h)
  case str b=>
   rw[ha.of (by simp),hb.of (by simp)];cases op<;>simp only[OD,dB,Aj,Ak,reduceCtorEq] at h<;>obtain⟨rfl,rfl⟩:=h<;>simp only[DV.enc,Ou,HG,iS,jh,jb,BX.b,Cc];rw[Ab (show a.length+b.length≤9223372036854775807 from hg)];rfl
theorem Ya(x:BX):x.not.b=!x.b:=by cases x<;>simp only[BX.not,BX.b,N6]
theorem v8(x y:BX):(x.eq y).b=(x.b == y.b):=by
 cases x with
 | lit a=>cases y with
   |lit b=>rfl
   |dyn b=>cases a<;>cases b<;>simp only[BX.eq,BX.b,N6]<;>rfl
 | dyn a=>cases y with
   |lit b=>cases a<;>cases b<;>simp only[BX.eq,BX.b,N6]<;>rfl
   |dyn b=>simp only[BX.eq,BX.b,iw]
theorem qw{neg:Bool}{a b:DV}{p q:PV}{g:PX}{v:DV}(ha:EV a p)(hb:EV b q)(h:U3 neg a b=some (g,v)):QL neg p q=some v.enc:=by
 cases a<;>try (simp only[U3,reduceCtorEq] at h)
 case bool a=>
  cases b<;>try (simp only[U3,reduceCtorEq] at h)
  case bool b=>
   rw[ha.of (by simp),hb.of (by simp)];simp only[EH,Aj,Ak] at h;obtain⟨rfl,rfl⟩:=h;cases neg<;>simp only[DV.enc,QL,AN,AL,AX,Ya,v8]
theorem qa{neg:Bool}{a:DV}{p:PV}{g:PX}{v:DV}(ha:EV a p)(h:Zh neg a=some (g,v)):QM neg p=some v.enc:=by
 cases a<;>try (simp only[Zh,reduceCtorEq] at h)
 case ifc a=>
  rw[ha.of (by simp)];simp only[dB,Aj,Ak] at h;obtain⟨rfl,rfl⟩:=h;cases neg<;>simp only[DV.enc,QM,AN,AL,AX,N6,BX.b]
theorem rW{op:UnOp}{a:DV}{p:PV}{g:PX}{v:DV}(ha:EV a p)(h:Zn op a=some (g,v)):Q9 op p=some v.enc:=by
 cases op<;>cases a<;>simp only[Zn,EH,dI,Aj,Ak,reduceCtorEq] at h<;>obtain⟨rfl,rfl⟩:=h<;>rw[ha.of (by simp)]<;>simp only[DV.enc,Q9,KZ,Cc,Ya,ie]
theorem oS{k:IntKind}{a:DV}{p:PV}{g:PX}{v:DV}(ha:EV a p)(h:Y6 k a=some (g,v)):Qs k p=some v.enc:=by
 cases a<;>simp only[Y6,dI,Aj,Ak,reduceCtorEq] at h;obtain⟨rfl,rfl⟩:=h;rw[ha.of (by simp)];simp only[DV.enc,Qs,Ud]
theorem oD{a:DV}{p:PV}{g:PX}{v:DV}(ha:EV a p)(h:YP a=some (g,v)):TV p=some v.enc:=by
 cases a<;>simp only[YP,EH,Aj,Ak,reduceCtorEq] at h<;>obtain⟨rfl,rfl⟩:=h<;>rw[ha.of (by simp)]<;>rfl
theorem nU{off:Nat}{a:DV}{p:PV}{g:PX}{v:DV}(ha:EV a p)(h:XU off a=some (g,v)):TK off p=some v.enc:=by
 cases a<;>simp only[XU,EH,Aj,Ak,reduceCtorEq] at h<;>obtain⟨rfl,rfl⟩:=h<;>rw[ha.of (by simp)]<;>rfl
theorem qp{a:DV}{p:PV}{g:PX}{v:DV}(ha:EV a p)(h:Zf a=some (g,v)):Q3 p=some v.enc:=by
 cases a<;>simp only[Zf,dI,Aj,Ak,reduceCtorEq] at h<;>obtain⟨rfl,rfl⟩:=h<;>rw[ha.of (by simp)]<;>simp only[DV.enc,Q3,Bb,Yu,AK]<;>rfl
theorem pj{a:DV}{p:PV}{g:PX}{v:DV}(ha:EV a p)(h:Y9 a=some (g,v)):QB p=some v.enc:=by
 cases a<;>simp only[Y9,dI,Aj,Ak,reduceCtorEq] at h;obtain⟨rfl,rfl⟩:=h;rw[ha.of (by simp)];simp only[DV.enc,QB,Yu]
theorem oC{a b:DV}{p q:PV}{g:PX}{v:DV}(ha:EV a p)(hb:EV b q)(h:Up a b=some (g,v))(hg:g.den):Qm p q=some v.enc:=by
 cases a<;>try (simp only[Up,reduceCtorEq] at h)
 cases b<;>simp only[Up,Aj,Ak,reduceCtorEq] at h;obtain⟨rfl,rfl⟩:=h;rw[ha.of (by simp),hb.of (by simp)];simp only[DV.enc,Qm,iJ];exact Ab hg
theorem KC:∀ (r:RT) (x:r.D),(RT.enc r x).length=r.w
 |.one _,_=>rfl
 |.cons _ r,x=>by simp only[RT.enc,AG,RT.w,KC r x.2]
theorem E0(r:RT):∀ (l:List r.D),Cl r.w (l.map (RT.enc r))=true
 |[]=>rfl
 |x::l=>by simp only[Cd,Cl,KC,beq_self_eq_true,E0 r l,CL]
theorem nK{w:Nat}{x:Opnd}{a b:DV}{p q:PV}{g:PX}{v:DV}(ha:EV a p)(hb:EV b q)(h:Qc w x a b=some (g,v))(hg:g.den):PQ w x p q=some v.enc:=by
 cases a<;>try (simp only[Qc,reduceCtorEq] at h)
 case sl q' r l=>
  cases b<;>try (simp only[Qc,reduceCtorEq] at h)
  case int k j=>
   rw[ha.of (by simp),hb.of (by simp)];by_cases hw:(r.w == w)=true
   · rw[Ab hw] at h
     have hw':r.w=w:=by simpa using hw
     subst hw'
     cases hq:EA x q' with
     |none=>rw[hq] at h;cases h
     | some q2=>
       rw[hq] at h;simp only[Aj,Ak] at h;obtain⟨rfl,rfl⟩:=h;simp only[DV.enc,PQ,Bb,X5];rw[Ab ⟨hg.1,hg.2,E0 r l⟩,hq];rfl
   · rw[Ad hw] at h;cases h
 case nil q'=>cases b<;>simp only[Qc,reduceCtorEq] at h
theorem pT{a b:DV}{p q:PV}{g:PX}{v:DV}(ha:EV a p)(hb:EV b q)(h:Ze a b=some (g,v)):Q2 p q=some v.enc:=by
 unfold Ze at h;split at h
 · simp only[dI,Aj,Ak] at h;obtain⟨rfl,rfl⟩:=h;rw[ha.of (by simp),hb.of (by simp)];simp only[DV.enc,Q2,vO]
 · cases h
theorem pZ{a b:DV}{p q:PV}{g:PX}{v:DV}(ha:EV a p)(hb:EV b q)(h:Zd a b=some (g,v)):QR p q=some v.enc:=by
 unfold Zd at h;split at h
 · simp only[dI,Aj,Ak] at h;obtain⟨rfl,rfl⟩:=h;rw[ha.of (by simp),hb.of (by simp)];simp only[DV.enc,QR,Yh]
 · cases h
theorem land_den(a b:PX):(a.land b).den↔a.den∧b.den:=by
 cases a<;>cases b<;>simp[PX.land,PX.den]
theorem SK{d:Nat}{x:Option DV}{y:Option PV}{g:PX}{n:Nat}(hx:match x,y with|none,none=>True|some v,some p=>EV v p|_,_=>False)(h:Hx d x=some (g,n))(hg:g.den):JL d y=some n:=by
 cases x with
 | none=>
   cases y with
   |none=>simp only[Hx,Aj,Ak] at h;rw[← h.2];rfl
   |some p=>cases hx
 | some v=>
   cases y with
   |none=>cases hx
   | some p=>
     cases v<;>simp only[Hx,Aj,Ak,reduceCtorEq] at h;obtain⟨rfl,rfl⟩:=h;rw[EV.of hx (by simp)];simp only[DV.enc,JL,X5];exact Ab hg
theorem nW{lo hi:Option DV}{lo' hi':Option PV}{a:DV}{p:PV}{g:PX}{v:DV}(hl:match lo,lo' with|none,none=>True|some v,some p=>EV v p|_,_=>False)(hh:match hi,hi' with|none,none=>True|some v,some p=>EV v p|_,_=>False)(ha:EV a p)(h:XS lo hi a=some (g,v))(hg:g.den):PY lo' hi' p=some v.enc:=by
 cases a<;>try (simp only[XS,reduceCtorEq] at h)
 case str t=>
  rw[ha.of (by simp)]
  cases h1:Hx 0 lo with
  |none=>rw[h1] at h;cases h
  | some x=>
    cases h2:Hx (lN t) hi with
    |none=>rw[h1,h2] at h;cases h
    | some y=>
      obtain⟨g1,a⟩:=x;obtain⟨g2,b⟩:=y;rw[h1,h2] at h;simp only[Aj,Ak] at h;obtain⟨rfl,rfl⟩:=h;rw[land_den,land_den] at hg;have e1:=SK hl h1 hg.1.1;have e2:=SK hh h2 hg.1.2;simp only[Re] at e2;simp only[DV.enc,PY,e1,e2,Yv];exact Ab hg.2
theorem oE{w:Nat}{x:Opnd}{lo hi:Option DV}{lo' hi':Option PV}{a:DV}{p:PV}{g:PX}{v:DV}(hl:match lo,lo' with|none,none=>True|some v,some p=>EV v p|_,_=>False)(hh:match hi,hi' with|none,none=>True|some v,some p=>EV v p|_,_=>False)(ha:EV a p)(h:YL w x lo hi a=some (g,v))(hg:g.den):P9 w x lo' hi' p=some v.enc:=by
 cases a<;>try (simp only[YL,reduceCtorEq] at h)
 case sl q r t=>
  rw[ha.of (by simp)]
  cases h1:Hx 0 lo with
  |none=>rw[h1] at h;cases h
  | some x1 =>
    cases h2:Hx (lN t) hi with
    |none=>rw[h1,h2] at h;cases h
    | some y=>
      obtain⟨g1,a⟩:=x1;obtain⟨g2,b⟩:=y;rw[h1,h2] at h;simp only at h;by_cases hw:(r.w == w)=true
      · rw[Ab hw] at h
        have hw':r.w=w:=by simpa using hw
        subst hw'
        cases hq:jt x lo.isNone q with
        |none=>rw[hq] at h;cases h
        | some q'=>
          rw[hq] at h;simp only[Aj,Ak] at h;obtain⟨rfl,rfl⟩:=h;rw[land_den,land_den] at hg;have e1:=SK hl h1 hg.1.1;have e2:=SK hh h2 hg.1.2;simp only[Re] at e2
          have hz:Ey x (if lo'.isNone=true then 0 else 1) q=some q':=by
           have:lo'.isNone=lo.isNone:=by cases lo<;>cases lo'<;>first|rfl|exact hl.elim
           rw[this];exact hq
          simp only[DV.enc,P9,Bb,e1,e2,Yv,hz];rw[Ab ⟨hg.2.1,hg.2.2.1,hg.2.2.2,E0 r t⟩,List.map_take,List.map_drop];rfl
      · rw[Ad hw] at h;cases h
theorem tI(hd:Hd)(p:List Nat)(v:DV):(YV hd p v).enc=Cs hd p v.enc:=by
 cases v<;>first|rfl|skip
 case nil q=>cases q<;>rfl
 case sl q r l=>cases q<;>rfl
theorem P2(hd:Hd):∀ (n:Nat) (l:List DV),DV.encL (Ix hd n l)=Gf hd n (DV.encL l)
 |_,[]=>rfl
 |n,v::r=>by simp only[Ix,DV.encL,Gf,tI,P2 hd (n+1) r]
theorem NB{n:Option Nat}{cs:List DV}{v:DV}(h:E5 n cs=some v):DD n (DV.encL cs)=some v.enc:=by
 cases n with
 |some n=>simp only[E5,Aj] at h;subst h;rfl
 | none=>match cs,h with
   |[x],h=>simp only[E5,Aj] at h;subst h;rfl
theorem oK{off:Nat}{n:Option Nat}{x:Opnd}{a:DV}{p:PV}{g:PX}{v:DV}(ha:EV a p)(h:XY off n x a=some (g,v)):Qd off n x p=some v.enc:=by
 cases a<;>try (simp only[XY,reduceCtorEq] at h)
 case agg cs=>
  rw[ha.of (by simp)]
  cases x with
  |c _=>cases h
  | t t =>
    simp only at h;by_cases hc:(Nat.ble (off+n.getD 1) cs.length&&DV.okL (BO cs off (n.getD 1)))=true
    · rw[Ab hc] at h;rw[Ah] at hc
      cases hv:E5 n (Ix (.s t) off (BO cs off (n.getD 1))) with
      |none=>rw[hv] at h;cases h
      | some w=>
        rw[hv] at h;simp only[Cc,Aj,Ak] at h;obtain⟨rfl,rfl⟩:=h;have:=NB hv;rw[P2,Tj] at this;simp only[DV.enc,Qd,Es];rw[Ab (CC hc.1)];exact this
    · rw[Ad hc] at h;cases h
theorem oz:∀ {r:RT} {l:List r.D} {s:List UInt8},UE r l=some s→BT (l.map (RT.enc r))=some s
 | .one (.int .u8),l,s,h=>by
   simp only[UE,Aj] at h
   subst h
   refine Eq.trans ?_ (congrArg some (iI l).symm)
   induction l with
   |nil=>rfl
   | cons x l ih=>
     show (BT (l.map (RT.enc (.one (.int .u8))))).map (fun s=>UInt8.ofNat (Int.toNat x)::s)=_
     rw[ih];rfl
theorem pH{a:DV}{p:PV}{g:PX}{v:DV}(ha:EV a p)(h:YW a=some (g,v)):Qu p=some v.enc:=by
 cases a<;>try (simp only[YW,reduceCtorEq] at h)
 case nil q=>
  rw[ha.of (by simp)];simp only[EH,Aj,Ak] at h;obtain⟨rfl,rfl⟩:=h;rfl
 case sl q r l=>
  rw[ha.of (by simp)]
  cases hs:UE r l with
  |none=>rw[hs] at h;cases h
  | some s=>
    rw[hs] at h;simp only[Cc,Aj,Ak] at h;obtain⟨rfl,rfl⟩:=h;simp only[DV.enc,Qu,oz hs,Cc]
theorem aU:∀ {a b:List DV} {t:BX},Ks a b=some t→∃ x y,DH (DV.encL a)=some x∧DH (DV.encL b)=some y∧x.length=a.length∧y.length=b.length∧x.all V.flat=true∧y.all V.flat=true∧DB x y=some t.b
 | [],[],t,h=>by
   simp only[Ks,Aj] at h;subst h;exact⟨[],[],rfl,rfl,rfl,rfl,rfl,rfl,rfl⟩
 | .int k a::x,.int k' b::y,t,h=>by
   unfold Ks at h;by_cases hk:IntKind.same k k'=true
   · rw[Ab hk] at h;have:=T5 hk;subst this
     have key:∀ t',Ks x y=some t'→t.b=((a == b)&&t'.b)→∃ x1 y1,DH (DV.encL (.int k a::x))=some x1∧DH (DV.encL (.int k b::y))=some y1∧x1.length=(DV.int k a::x).length∧y1.length=(DV.int k b::y).length∧x1.all V.flat=true∧y1.all V.flat=true∧DB x1 y1=some t.b:=by
      intro t' ht hb;obtain⟨x1,y1,h1,h2,h3,h4,h5,h6,h7⟩:=aU ht;refine⟨.int k a::x1,.int k b::y1,?_,?_,by simp[h3],by simp[h4],?_,?_,?_⟩
      · simp only[DV.encL,DV.enc,DH,h1]
      · simp only[DV.encL,DV.enc,DH,h2]
      · simp only[Fx,V.flat,h5,CL]
      · simp only[Fx,V.flat,h6,CL]
      · simp only[DB,N9,AN]
        cases hab:(a == b) with
        |true=>simp only[h7,hb,hab,Ml]
        |false=>simp only[hb,hab,Ot]
     split at h
     · simp only[Aj] at h;subst h;exact key (.lit true) rfl (by simp only[BX.b,UM,KU])
     · cases ht:Ks x y with
       |none=>rw[ht] at h;cases h
       | some t'=>
         rw[ht] at h;simp only[Cc,Aj] at h;subst h;exact key t' ht (by simp only[BX.b,UM,Yp])
   · rw[Ad hk] at h;cases h
theorem qi{n:Nat}{neg:Bool}{a b:DV}{p q:PV}{g:PX}{v:DV}(ha:EV a p)(hb:EV b q)(h:U5 n neg a b=some (g,v)):QH n neg p q=some v.enc:=by
 cases a<;>try (simp only[U5,reduceCtorEq] at h)
 case agg a=>
  cases b<;>try (simp only[U5,reduceCtorEq] at h)
  case agg b=>
   rw[ha.of (by simp),hb.of (by simp)];by_cases hl:(a.length == n&&b.length == n)=true
   · rw[Ab hl] at h;rw[Ah,AW,AW] at hl
     cases ht:Ks a b with
     |none=>rw[ht] at h;cases h
     | some t=>
       rw[ht] at h;simp only[EH,Aj,Ak] at h;obtain⟨rfl,rfl⟩:=h;obtain⟨x,y,h1,h2,h3,h4,h5,h6,h7⟩:=aU ht;simp only[DV.enc,QH,h1,h2];rw[Ab ⟨h3.trans hl.1,h4.trans hl.2,h5,h6⟩,h7];cases neg<;>simp only[Cc,AN,AL,AX,Ya]
   · rw[Ad hl] at h;cases h
theorem UI{d:DS}{s:PS}(h:ES d s)(x:Option Opnd):match x.map (fun x=>x.dev d.sl),x.map (fun x=>x.pev s.sl) with|none,none=>True|some v,some p=>EV v p|_,_=>False:=by
 cases x with
 |none=>exact trivial
 |some x=>exact x.dev_ev h
theorem DZ{s:PS}{o:Option PV}{v:PV}(h:o=some v):CP s o=some (v,s):=by rw[h];rfl
theorem pe{d:DS}{s:PS}{o:AOp}{m:Bool}{g:PX}{v:DV}(hs:ES d s)(h:Om o (fun x=>x.dev d.sl)=some (g,v))(hg:g.den):Bm m o s=some (v.enc,s):=by
 have E:=fun x=>Opnd.dev_ev hs x
 cases o<;>simp only[Om,reduceCtorEq] at h<;>simp only[Bm]
 case nilck x=>exact DZ (oD (E x) h)
 case bin op x y=>exact DZ (pK (E x) (E y) h hg)
 case eqB neg x y=>exact DZ (qw (E x) (E y) h)
 case eqN neg x y=>
  split at h
  · exact DZ (qa (E x) h)
  · cases h
 case eqA n neg x y=>exact DZ (qi (E x) (E y) h)
 case un op x=>exact DZ (rW (E x) h)
 case conv k x=>exact DZ (oS (E x) h)
 case bstr x=>exact DZ (pH (E x) h)
 case slice w x lo hi=>exact DZ (oE (UI hs lo) (UI hs hi) (E x) h hg)
 case substr x lo hi=>exact DZ (nW (UI hs lo) (UI hs hi) (E x) h hg)
 case fieldA off a=>exact DZ (nU (E a) h)
 case field off n x=>exact DZ (oK (E x) h)
 case indexA w x i=>exact DZ (nK (E x) (E i) h hg)
 case index x i=>exact DZ (oC (E x) (E i) h hg)
 case len x=>exact DZ (qp (E x) h)
 case lenT x=>exact DZ (pj (E x) h)
 case minI x y=>exact DZ (pT (E x) (E y) h)
 case maxI x y=>exact DZ (pZ (E x) (E y) h)
theorem WV:∀ (l:List DV),DV.okL l=true→EL (news (Oi l)) (CE (DV.encL l))
 |[],_=>trivial
 | v::r,h=>by
   simp only[DV.okL,Ah] at h
   refine⟨?_,WV r h.2⟩
   simp only[Jx]
   by_cases ho:v.own=true
   · rw[Ab ho,Ab ho];exact .inl rfl
   · rw[Ad ho,Ad ho];exact .inr rfl
theorem EL.spliceE:∀ {a:List DC} {b:List PV} (n:Nat) {vs:List DV} {ps:List PV},EL a b→EL (Go.Ag.news vs) ps→EL (Ie a n vs) (Aw b n ps)
 |[],[],_,[],[],_,_=>trivial
 |[],[],_,_::_,_::_,_,_=>trivial
 |_::_,_::_,0,[],[],h,_=>h
 |_::_,_::_,_+1,[],[],h,_=>h
 |_::_,_::_,0,_::_,_::_,h,hv=>⟨hv.1,EL.spliceE 0 h.2 hv.2⟩
 |_::_,_::_,n+1,_::_,_::_,h,hv=>⟨h.1,EL.spliceE n h.2 hv⟩
theorem EBx.to{a:List DC}{b:List PV}(h:EBx a b)(hn:0<a.length):EL a b:=by
 rcases h with rfl|h
 · exact absurd hn (Nat.lt_irrefl 0)
 · exact h
theorem EBx.segm{a:List DC}{b:List PV}{o n:Nat}(h:EBx a b)(hl:o+n≤a.length)(hk:DV.okL (BO (Bv a) o n)=true):o+n≤b.length∧Go.Ag.segm b o n=DV.encL (BO (Bv a) o n):=by
 rcases h with rfl|h
 · have h0:o=0∧n=0:=by simp only[AK] at hl;omega
   rw[h0.1,h0.2];exact⟨HB _,by cases b<;>rfl⟩
 · exact⟨by rw[← h.len];exact hl,h.segm o n hk⟩
theorem EBx.splice{a:List DC}{b:List PV}{o:Nat}{vs:List DV}{ps:List PV}(h:EBx a b)(hv:EL (news vs) ps)(hl:o+vs.length≤a.length):EBx (Ie a o vs) (Aw b o ps):=by
 rcases h with rfl|h
 · have h0:vs=[]:=by
    cases vs with
    |nil=>rfl
    |cons _ _=>simp only[AG,AK] at hl;omega
   subst h0;exact .inl rfl
 · exact .inr (h.spliceE o hv)
theorem Tl:∀ (l:List DV) (o n:Nat),o+n≤l.length→(BO l o n).length=n
 |[],0,0,_=>rfl
 |[],0,_+1,h=>by simp only[AK] at h;omega
 |[],_+1,_,h=>by simp only[AK] at h;omega
 |_::_,0,0,_=>rfl
 |_::r,0,n+1,h=>by simp only[BO,AG] at h ⊢;rw[Tl r 0 n (by omega)]
 |_::r,o+1,n,h=>by simp only[BO,AG] at h ⊢;exact Tl r o n (by omega)
theorem WM:∀ (l:List DV),(Oi l).length=l.length
 |[]=>rfl
 |_::r=>by simp only[Oi,AG,WM r]
theorem bO{m:Bool}{i:Nat}{n:Option Nat}{a:DV}{p:PV}{d d':DS}{s:PS}{g:PX}{v:DV}(hs:ES d s)(ha:EV a p)(h:Mg m i n a d=some (g,v,d')):∃ s',LY m i n p s=some (v.enc,s')∧ES d' s':=by
 cases a<;>try (simp only[Mg,reduceCtorEq] at h)
 case box j o=>
  rw[ha.of (by simp)];by_cases hc:(i == j&&Nat.ble (o+n.getD 1) (Bz d.bx i).length&&DV.okL (BO (Bv (Bz d.bx i)) o (n.getD 1)))=true
  · rw[Ab hc] at h;rw[Ah,Ah,AW] at hc;obtain⟨⟨rfl,hl⟩,hk⟩:=hc;have hl:=CC hl;obtain⟨h1,h2⟩:=(hs.bx.get i).segm hl hk;simp only[DV.enc,LY];rw[Ab ⟨trivial,h1⟩,h2]
    cases m with
    | true=>
      simp only[AN] at h ⊢
      cases hv:E5 n (BO (Bv (Bz d.bx i)) o (n.getD 1)) with
      |none=>rw[hv] at h;cases h
      | some w=>
        rw[hv] at h;simp only[Cc,Aj,Ak] at h;obtain⟨_,rfl,rfl⟩:=h;rw[NB hv];refine⟨_,rfl,hs.sl.clr _,hs.bx.put i ((hs.bx.get i).splice (WV _ hk) ?_),hs.hp⟩;rw[WM,Tl _ _ _ (by rw[PR];exact hl)];exact hl
    | false=>
      simp only[AL,AX] at h ⊢
      cases hv:E5 n (Ix (.b i) o (BO (Bv (Bz d.bx i)) o (n.getD 1))) with
      |none=>rw[hv] at h;cases h
      | some w=>
        rw[hv] at h;simp only[Cc,Aj,Ak] at h;obtain⟨_,rfl,rfl⟩:=h;have:=NB hv;rw[P2] at this;rw[this];exact⟨_,rfl,hs⟩
  · rw[Ad hc] at h;cases h
theorem iF{q q':Ql}(h:OC q=some q'):∀ (t:CT) (x:t.D),(CT.dv q' t x).enc=JT q (CT.enc t x)
 |.int _,_|.bool,_|.str,_=>by cases q<;>rfl
 |.ifc,_=>by cases q<;>rfl
 |.sl r,l=>by cases q<;>simp only[OC,Aj,reduceCtorEq] at h<;>subst h<;>rfl
theorem ic{q q':Ql}(h:OC q=some q'):∀ (r:RT) (x:r.D),DV.encL (r.dv q' x)=Ff q (RT.enc r x)
 |.one t,x=>by simp only[RT.dv,DV.encL,RT.enc,Ff,iF h t x]
 |.cons t r,x=>by simp only[RT.dv,DV.encL,RT.enc,Ff,iF h t x.1,ic h r x.2]
theorem GJ(r:RT):∀ (l:List r.D) (j:Nat),j<l.length→AU (l.map (RT.enc r)) j=RT.enc r (l.getD j r.dflt)
 |_::_,0,_=>rfl
 |_::l,j+1,h=>GJ r l j (by simpa using h)
theorem WK(q:Ql):∀ (l:List PV) (o n:Nat),Ff q (Go.Ag.segm l o n)=Go.Ag.segm (Ff q l) o n
 |[],0,0=>rfl
 |[],0,_+1=>rfl
 |[],_+1,_=>rfl
 |_::_,0,0=>rfl
 |c::r,0,n+1=>by simp only[Go.Ag.segm,Ff,WK q r 0 n]
 |_::r,o+1,n=>by simp only[Go.Ag.segm,Ff];exact WK q r o n
theorem qv{q q':Ql}(h:OC q=some q'):q.isOwn=false:=by cases q<;>first|rfl|cases h
theorem bN{m:Bool}{n:Option Nat}{a:DV}{p:PV}{d d':DS}{s:PS}{g:PX}{v:DV}(hs:ES d s)(ha:EV a p)(h:KI m n a d=some (g,v,d'))(hg:g.den):∃ s',KB m n p s=some (v.enc,s')∧ES d' s':=by
 cases a<;>try (simp only[KI,reduceCtorEq] at h)
 case ep q r l j o=>
  rw[ha.of (by simp)]
  cases hq:OC q with
  |none=>rw[hq] at h;cases h
  | some q'=>
    rw[hq] at h;simp only at h;by_cases hc:Nat.ble (o+n.getD 1) r.w=true
    · rw[Ab hc] at h
      cases hv:E5 n (BO (r.dv q' (lGet l j r.dflt)) o (n.getD 1)) with
      |none=>rw[hv] at h;cases h
      | some w=>
        rw[hv] at h;simp only[Cc,Aj,Ak] at h;obtain⟨rfl,rfl,rfl⟩:=h;have hj:j<l.length:=hg;have:=NB hv;rw[Tj,ic hq,← WK,N5,← GJ r l j hj] at this;simp only[DV.enc,KB,Bb];rw[Ab ⟨hj,by rw[GJ r l j hj,KC];exact CC hc,qv hq⟩,this];exact⟨_,rfl,hs⟩
    · rw[Ad hc] at h;cases h
 case ptr i o=>
  rw[ha.of (by simp)];by_cases hc:(Nat.blt i d.hp.length&&Nat.ble (o+n.getD 1) (Bz d.hp i).length&&DV.okL (BO (Bv (Bz d.hp i)) o (n.getD 1)))=true
  · rw[Ab hc] at h;rw[Ah,Ah] at hc;obtain⟨⟨hi,hl⟩,hk⟩:=hc;have hi:=CC hi;have hl:=CC hl;obtain⟨h1,h2⟩:=(hs.hp.get i).segm hl hk;simp only[DV.enc,KB];rw[Ab ⟨by rw[← hs.hp.len];exact hi,h1⟩,h2]
    cases m with
    | true=>
      simp only[AN] at h ⊢
      cases hv:E5 n (BO (Bv (Bz d.hp i)) o (n.getD 1)) with
      |none=>rw[hv] at h;cases h
      | some w=>
        rw[hv] at h;simp only[Cc,Aj,Ak] at h;obtain⟨_,rfl,rfl⟩:=h;rw[NB hv];refine⟨_,rfl,hs.sl.clr _,hs.bx,hs.hp.put i ((hs.hp.get i).splice (WV _ hk) ?_)⟩;rw[WM,Tl _ _ _ (by rw[PR];exact hl)];exact hl
    | false=>
      simp only[AL,AX] at h ⊢
      cases hv:E5 n (Ix (.h i) o (BO (Bv (Bz d.hp i)) o (n.getD 1))) with
      |none=>rw[hv] at h;cases h
      | some w=>
        rw[hv] at h;simp only[Cc,Aj,Ak] at h;obtain⟨_,rfl,rfl⟩:=h;have:=NB hv;rw[P2] at this;rw[this];exact⟨_,rfl,hs⟩
  · rw[Ad hc] at h;cases h
theorem EL.clrD(hd:Hd):∀ {a:List DC} {b:List PV},EL a b→EL (C6 hd a) b
 |[],[],_=>trivial
 | c::_,p::_,h=>by
   refine⟨?_,EL.clrD hd h.2⟩
   by_cases hb:c.v.bor hd=true
   · rw[Ab hb];exact .inl rfl
   · rw[Ad hb];exact h.1
theorem EL.clr2{hd:Hd}{a:List DC}{b:List PV}{x:Bool}{y:Bool}(h:EL a b)(hxy:x=false→y=false):EL (if x then C6 hd a else a) (if y then Go.Ag.clr hd b else b):=by
 cases x with
 |false=>rw[hxy rfl];exact h
 | true=>cases y with
   |false=>exact h.clrD hd
   |true=>exact h.clr hd
theorem n9{i n:Nat}{a x:Opnd}{d d':DS}{s:PS}{g:PX}{v:DV}(hs:ES d s)(h:Qf i n a x d=some (g,v,d')):∃ s',P8 i n a x s=some (v.enc,s')∧ES d' s':=by
 unfold Qf at h;have ha:=a.dev_ev hs;generalize hm:A7 x d=w at h;obtain⟨w,d1⟩:=w;simp only at h;generalize a.dev d.sl=av at h ha
 cases av<;>try (simp only[reduceCtorEq] at h)
 case box j o=>
  by_cases hc:(i == j&&Nat.blt i d1.bx.length&&w.cells.length == n&&Nat.ble (o+n) (Bz d1.bx i).length&&CZ w.cells)=true
  · rw[Ab hc] at h;simp only[Ah,AW] at hc;obtain⟨⟨⟨⟨rfl,hi⟩,rfl⟩,hl⟩,hcl⟩:=hc;have hi:=CC hi;have hl:=CC hl;have hok:=PZ w hcl;obtain⟨m1,m2⟩:=Ep x hs (by rw[hm];exact hok);rw[hm] at m1 m2;simp only[Aj,Ak] at h;obtain⟨rfl,rfl,rfl⟩:=h;have hbx:=m2.bx.get i
    have hel:o+w.cells.length≤(Al (mvOut x s).2.bx i).length:=by
     rcases hbx with he|he
     · rw[he] at hl;simp only[AK] at hl;omega
     · rw[← he.len];exact hl
    simp only[P8,ha.of (by simp:DV.box i o≠.any),DV.enc,m1,Jn,Es,Jx];rw[Ab ⟨trivial,by rw[← m2.bx.len];exact hi,trivial,hel,LP _ hcl⟩];refine⟨_,rfl,m2.sl.clr2 fun hx=>?_,m2.bx.put i (hbx.splice (EL.news w.cells) hl),m2.hp⟩;simp only[CD,Fw] at hx ⊢;rw[(hbx.segm hl hx.1.1).2,NG];exact⟨hx.1.2,hx.2⟩
  · rw[Ad hc] at h;cases h
theorem TA{r' r:RT}{l:List r'.D}{m:List r.D}(h:Mp l=some m):r'=r∧l.map (RT.enc r')=m.map (RT.enc r):=by
 unfold Mp at h;split at h
 · rename_i hb;have hr:=RT.beq_eq hb;subst hr;simp only[Aj] at h;subst h;exact⟨rfl,rfl⟩
 · cases h
theorem iZ:∀ {t:CT} {v:DV} {x:t.D},t.of v=some x→v.enc=CT.enc t x
 | .int k,.int k' n,x,h=>by
   have h':(if k=k' then some n else none)=some x:=h
   by_cases hk:k=k'
   · subst hk
     rw[Ab rfl] at h'
     have:n=x:=Cx h'
     rw[← this];rfl
   · rw[Ad hk] at h';cases h'
 | .bool,.bool b,x,h=>by
   have:b.b=x:=Cx h
   rw[← this];rfl
 | .str,.str s,x,h=>by
   have:s=x:=Cx h
   rw[← this];rfl
 | .ifc,.ifc b,x,h=>by
   have:b=x:=Cx h
   rw[← this];rfl
 | .sl r,.nil .own,x,h=>by
   have:([]:List r.D)=x:=Cx h
   rw[← this];rfl
 | .sl r,.sl .own r' l,x,h=>by
   show PV.sl .own _=PV.sl .own _
   rw[(TA (r:=r) h).2]
theorem Oq:∀ {r:RT} {vs:List DV} {x:r.D},r.of vs=some x→DV.encL vs=RT.enc r x
 |.one t,[v],x,h=>by simp only[DV.encL,RT.enc,iZ (t:=t) h]
 | .cons t r,v::vs,x,h=>by
   have h':(match t.of v,r.of vs with|some x,some y=>some (x,y)|_,_=>none)=some x:=h
   clear h
   cases h1:t.of v with
   |none=>rw[h1] at h';cases h'
   | some a=>
     cases h2:r.of vs with
     |none=>rw[h1,h2] at h';cases h'
     | some b=>
       rw[h1,h2] at h'
       have:(a,b)=x:=Cx h'
       rw[← this]
       simp only[DV.encL,RT.enc,iZ h1,Oq h2]
theorem im:∀ (t:CT) (x:t.D),(CT.dv .own t x).enc=CT.enc t x
 |.int _,_|.bool,_|.str,_|.ifc,_|.sl _,_=>rfl
theorem UK:∀ (r:RT) (x:r.D),DV.encL (r.dv .own x)=RT.enc r x
 |.one t,x=>by simp only[RT.dv,DV.encL,RT.enc,im t x]
 |.cons t r,x=>by simp only[RT.dv,DV.encL,RT.enc,im t x.1,UK r x.2]
theorem P1(r:RT):∀ (l:List r.D) (j:Nat) (y:r.D),Bc (l.map (RT.enc r)) j (RT.enc r y)=(l.set j y).map (RT.enc r)
 |[],_,_=>rfl
 |_::_,0,_=>rfl
 |_::l,j+1,y=>by simp only[Cd,Bc,List.set_cons_succ,P1 r l j y]
theorem r7(v:DV)(p:List Nat)(h:v.fcell p≠.any):v.enc.fcell p=(v.fcell p).enc:=by
 cases v with
 | agg cs=>
   match p with
   |[]=>exact absurd rfl h
   |[c]=>exact(NF cs c).symm
   |_::_::_=>exact absurd rfl h
 | tup vs=>
   match p with
   |[]=>exact absurd rfl h
   |[_]=>exact absurd rfl h
   | [i,c]=>
     show Aa (Aa (DV.encL vs) i).cells c=(Gm (Gm vs i).cells c).enc;rw[← NF,Jn,← NF]
   |_::_::_::_=>exact absurd rfl h
 |any=>match p with|[]=>exact absurd rfl h|[0]=>exact absurd rfl h|[_+1]=>exact absurd rfl h|0::_::_=>exact absurd rfl h|(_+1)::_::_=>exact absurd rfl h
 |undef=>match p with|[]=>exact absurd rfl h|[0]=>rfl|[_+1]=>exact absurd rfl h|0::_::_=>exact absurd rfl h|(_+1)::_::_=>exact absurd rfl h
 |bool _=>match p with|[]=>exact absurd rfl h|[0]=>rfl|[_+1]=>exact absurd rfl h|0::_::_=>exact absurd rfl h|(_+1)::_::_=>exact absurd rfl h
 |int _ _=>match p with|[]=>exact absurd rfl h|[0]=>rfl|[_+1]=>exact absurd rfl h|0::_::_=>exact absurd rfl h|(_+1)::_::_=>exact absurd rfl h
 |str _=>match p with|[]=>exact absurd rfl h|[0]=>rfl|[_+1]=>exact absurd rfl h|0::_::_=>exact absurd rfl h|(_+1)::_::_=>exact absurd rfl h
 |ifc _=>match p with|[]=>exact absurd rfl h|[0]=>rfl|[_+1]=>exact absurd rfl h|0::_::_=>exact absurd rfl h|(_+1)::_::_=>exact absurd rfl h
 |nil _=>match p with|[]=>exact absurd rfl h|[0]=>rfl|[_+1]=>exact absurd rfl h|0::_::_=>exact absurd rfl h|(_+1)::_::_=>exact absurd rfl h
 |sl _ _ _=>match p with|[]=>exact absurd rfl h|[0]=>rfl|[_+1]=>exact absurd rfl h|0::_::_=>exact absurd rfl h|(_+1)::_::_=>exact absurd rfl h
 |ep _ _ _ _ _=>match p with|[]=>exact absurd rfl h|[0]=>rfl|[_+1]=>exact absurd rfl h|0::_::_=>exact absurd rfl h|(_+1)::_::_=>exact absurd rfl h
 |box _ _=>match p with|[]=>exact absurd rfl h|[0]=>rfl|[_+1]=>exact absurd rfl h|0::_::_=>exact absurd rfl h|(_+1)::_::_=>exact absurd rfl h
 |ptr _ _=>match p with|[]=>exact absurd rfl h|[0]=>rfl|[_+1]=>exact absurd rfl h|0::_::_=>exact absurd rfl h|(_+1)::_::_=>exact absurd rfl h
theorem Hj{d:DS}{s:PS}(hs:ES d s)(hd:Hd)(p:List Nat)(h:BU d hd p≠.any):CH s hd p=(BU d hd p).enc:=by
 cases hd with
 | s t=>
   rcases hs.sl.get t with hg|hg
   · simp only[BU,hg] at h;refine absurd ?_ h
     match p with
     |[]=>rfl
     |[0]=>rfl
     |[_+1]=>rfl
     |0::_::_=>rfl
     |(_+1)::_::_=>rfl
   · simp only[BU,CH,hg] at h ⊢;exact r7 _ p h
 | b i=>
   match p with
   |[]=>exact absurd rfl h
   |_::_::_=>exact absurd rfl h
   | [c]=>
     rcases hs.bx.get i with hb|hb
     · simp only[BU,hb,Bj] at h;exact absurd rfl h
     · exact(hb.get c).of h
 | h i=>
   match p with
   |[]=>exact absurd rfl h
   |_::_::_=>exact absurd rfl h
   | [c]=>
     rcases hs.hp.get i with hb|hb
     · simp only[BU,hb,Bj] at h;exact absurd rfl h
     · exact(hb.get c).of h
 |x i=>exact absurd rfl h
theorem sK(v:DV)(p:List Nat)(w:DV):v.enc.setc p w.enc=(v.setc p w).enc:=by
 cases v with
 | agg cs=>
   match p with
   |[]=>rfl
   |[c]=>exact congrArg PV.agg (TQ cs c w).symm
   |_::_::_=>rfl
 | tup vs=>
   match p with
   |[]=>rfl
   |[0]=>rfl
   |[_+1]=>rfl
   |0::_::_=>rfl
   |(_+1)::_::_=>rfl
 |any=>match p with|[]=>rfl|[0]=>rfl|[_+1]=>rfl|0::_::_=>rfl|(_+1)::_::_=>rfl
 |undef=>match p with|[]=>rfl|[0]=>rfl|[_+1]=>rfl|0::_::_=>rfl|(_+1)::_::_=>rfl
 |bool _=>match p with|[]=>rfl|[0]=>rfl|[_+1]=>rfl|0::_::_=>rfl|(_+1)::_::_=>rfl
 |int _ _=>match p with|[]=>rfl|[0]=>rfl|[_+1]=>rfl|0::_::_=>rfl|(_+1)::_::_=>rfl
 |str _=>match p with|[]=>rfl|[0]=>rfl|[_+1]=>rfl|0::_::_=>rfl|(_+1)::_::_=>rfl
 |ifc _=>match p with|[]=>rfl|[0]=>rfl|[_+1]=>rfl|0::_::_=>rfl|(_+1)::_::_=>rfl
 |nil _=>match p with|[]=>rfl|[0]=>rfl|[_+1]=>rfl|0::_::_=>rfl|(_+1)::_::_=>rfl
 |sl _ _ _=>match p with|[]=>rfl|[0]=>rfl|[_+1]=>rfl|0::_::_=>rfl|(_+1)::_::_=>rfl
 |ep _ _ _ _ _=>match p with|[]=>rfl|[0]=>rfl|[_+1]=>rfl|0::_::_=>rfl|(_+1)::_::_=>rfl
 |box _ _=>match p with|[]=>rfl|[0]=>rfl|[_+1]=>rfl|0::_::_=>rfl|(_+1)::_::_=>rfl
 |ptr _ _=>match p with|[]=>rfl|[0]=>rfl|[_+1]=>rfl|0::_::_=>rfl|(_+1)::_::_=>rfl
theorem EBx.put{a:List DC}{b:List PV}{v:DV}{p:PV}(n:Nat)(h:EBx a b)(hv:EV v p):EBx (C4 a n v) (BB b n p):=by
 rcases h with rfl|h
 · exact .inl rfl
 · exact .inr (h.put n hv)
theorem LG{d:DS}{s:PS}(hs:ES d s)(hd:Hd)(p:List Nat)(w:DV)(h:BU d hd p≠.any):ES (Gd d w hd p) (setK s w.enc hd p):=by
 cases hd with
 | s t=>
   refine⟨(hs.sl.put t (.inr ?_)).clr _,hs.bx,hs.hp⟩;rcases hs.sl.get t with hg|hg
   · simp only[BU,hg] at h;refine absurd ?_ h
     match p with
     |[]=>rfl
     |[0]=>rfl
     |[_+1]=>rfl
     |0::_::_=>rfl
     |(_+1)::_::_=>rfl
   · rw[hg];exact sK _ p w
 | b i=>
   match p with
   |[]=>exact absurd rfl h
   |_::_::_=>exact absurd rfl h
   |[c]=>exact⟨hs.sl.clr _,hs.bx.put i ((hs.bx.get i).put c (.inr rfl)),hs.hp⟩
 | h i=>
   match p with
   |[]=>exact absurd rfl h
   |_::_::_=>exact absurd rfl h
   |[c]=>exact⟨hs.sl.clr _,hs.bx,hs.hp.put i ((hs.hp.get i).put c (.inr rfl))⟩
 |x i=>exact absurd rfl h
theorem oe{n:Nat}{a x:Opnd}{d d':DS}{s:PS}{g:PX}{v:DV}(hs:ES d s)(h:Qj n a x d=some (g,v,d'))(hg:g.den):∃ s',P0 n a x s=some (v.enc,s')∧ES d' s':=by
 unfold Qj at h;generalize hm:A7 x d=w at h;obtain⟨w,d1⟩:=w;simp only at h
 have hw:CZ w.cells=true→ES d1 (mvOut x s).2∧(mvOut x s).1=w.enc:=fun hcl=>by
  obtain⟨m1,m2⟩:=Ep x hs (by rw[hm];exact PZ w hcl);rw[hm] at m1 m2;exact⟨m2,m1⟩
 split at h
 · rename_i i o ha;by_cases hc:(Nat.blt i d1.hp.length&&w.cells.length == n&&Nat.ble (o+n) (Bz d1.hp i).length&&CZ w.cells)=true
   · rw[Ab hc] at h;simp only[Ah,AW] at hc;obtain⟨⟨⟨hi,rfl⟩,hl⟩,hcl⟩:=hc;have hi:=CC hi;have hl:=CC hl;obtain⟨m2,m1⟩:=hw hcl;have ha':=a.dev_ev m2;rw[ha] at ha';simp only[Aj,Ak] at h;obtain⟨rfl,rfl,rfl⟩:=h;have hbx:=m2.hp.get i
     have hel:o+w.cells.length≤(Al (mvOut x s).2.hp i).length:=by
      rcases hbx with he|he
      · rw[he] at hl;simp only[AK] at hl;omega
      · rw[← he.len];exact hl
     simp only[P0,ha'.of (by simp:DV.ptr i o≠.any),DV.enc,m1,Jn,Es,Jx];rw[Ab ⟨by rw[← m2.hp.len];exact hi,trivial,hel,LP _ hcl⟩];refine⟨_,rfl,m2.sl.clr2 fun hx=>?_,m2.bx,m2.hp.put i (hbx.splice (EL.news w.cells) hl)⟩;simp only[CD,Fw] at hx ⊢;rw[(hbx.segm hl hx.1.1).2,NG];exact⟨hx.1.2,hx.2⟩
   · rw[Ad hc] at h;cases h
 · rename_i hd p r0 l0 j o ha
   cases hk:BU d1 hd [p]<;>rw[hk] at h<;>try (cases h;done)
   rename_i q r l
   cases q<;>try (cases h;done)
   simp only at h;by_cases hc:(w.cells.length == n&&Nat.ble (o+n) r.w&&CZ w.cells)=true
   · rw[Ab hc] at h;simp only[Ah,AW] at hc;obtain⟨⟨rfl,hl⟩,hcl⟩:=hc;have hl:=CC hl
     cases hof:r.of (Ic (r.dv .own (lGet l j r.dflt)) o w.cells) with
     |none=>rw[hof] at h;cases h
     | some y=>
       rw[hof] at h;simp only[Aj,Ak] at h;obtain⟨rfl,rfl,rfl⟩:=h;obtain⟨m2,m1⟩:=hw hcl;have ha':=a.dev_ev m2;rw[ha] at ha'
       have hne:BU d1 hd [p]≠.any:=by rw[hk];simp
       have hj:j<l.length:=hg;have e1:=Hj m2 hd [p] hne;rw[hk] at e1;have e2:=Oq hof;rw[Py,UK,N5,← GJ r l j hj] at e2;have e3:=LG m2 hd [p] (.sl .own r (lSet l j y)) hne;simp only[P0,ha'.of (by simp:DV.ep (.bor hd [p] true) r0 l0 j o≠.any),DV.enc,m1,Jn,Es,e1,Bb];rw[Ab ⟨hj,trivial,by rw[GJ r l j hj,KC];exact hl,LP _ hcl⟩,e2,P1];simp only[DV.enc,QA] at e3;exact⟨_,rfl,by rw[QA];exact e3⟩
   · rw[Ad hc] at h;cases h
 · cases h
theorem cj{m:Bool}{n:Option Nat}{a:DV}{p:PV}{d d':DS}{s:PS}{r:D1}{g:PX}{v:DV}(hs:ES d s)(ha:EV a p)(h:Iq m n a d=some r)(hr:r=some (g,v,d'))(hg:g.den):GS m n p s=some (some v.enc)∧d'=d:=by
 unfold Iq at h;split at h
 · rename_i hd c r1 l j;simp only[Aj] at h;rw[hr] at h;split at h
   · rename_i r2 l2 hk;simp only[Aj,Ak] at h;obtain⟨rfl,rfl,rfl⟩:=h;obtain⟨g1,g2⟩:=hg
     have hne:BU d hd [c]≠.any:=by rw[hk];simp
     have e1:=Hj hs hd [c] hne;rw[hk] at e1;have e2:AU (List.map (RT.enc (.one (.sl r1))) l) j=[PV.sl .own (List.map (RT.enc r1) (List.getD (α:=List r1.D) l j []))]:=GJ (.one (.sl r1)) l j g1;have e3:AU (List.map (RT.enc (.one (.sl r2))) l2) j=[PV.sl .own (List.map (RT.enc r2) (List.getD (α:=List r2.D) l2 j []))]:=GJ (.one (.sl r2)) l2 j g2;refine⟨?_,rfl⟩;rw[ha.of (by simp)];simp only[DV.enc,GS,e1,Bb];rw[e2,Ab g2,e3];rw[show lGet (α:=List r2.D) l2 j []=List.getD (α:=List r2.D) l2 j [] from N5 l2 j []]
   · cases h
 · cases h
theorem qu{m:Bool}{n:Option Nat}{a:DV}{p:PV}{d:DS}{s:PS}(ha:EV a p)(hne:a≠.any)(h:Iq m n a d=none):GS m n p s=none:=by
 unfold GS;split
 · rename_i hd c es j;have hp:=ha.of hne;cases a<;>simp only[DV.enc,PV.ep.injEq,reduceCtorEq] at hp;rename_i q r l j' o;obtain⟨rfl,rfl,rfl,rfl⟩:=hp;split
   · rename_i x he;rcases Bq j l.length with hj|hj
     · rw[GJ r l j hj] at he
       cases r with
       | one t=>
         cases t with
         |sl r1=>simp[Iq] at h
         |_=>simp only[RT.enc,CT.enc,GL,reduceCtorEq,false_and] at he
       |cons t r=>cases r<;>simp[RT.enc] at he
     · have hz:AU (l.map (RT.enc r)) j=[]:=by rw[Mi,Bu (by simpa using hj)];rfl
       rw[hz] at he;cases he
   · rfl
 · rfl
theorem rU{i c:Nat}{a:DV}{p:PV}(ha:EV a p)(hx:a.nestX i c=true):p.nestX i c=true:=by
 rw[ha.of (fun e=>by rw[e] at hx;cases hx)];unfold DV.nestX at hx;split at hx
 · exact hx
 · cases hx
theorem sO{a:DV}{p:PV}(ha:EV a p)(hne:a≠.any):p.nest=a.nest:=by
 rw[ha.of hne]
 cases a<;>try rfl
 rename_i q r l j o
 cases q<;>try rfl
 rename_i hd pt tp
 match pt,tp with
 |[],_=>cases tp<;>rfl
 |[_],_=>cases tp<;>rfl
 |[_,_],true=>rfl
 |[_,_],false=>rfl
 |_::_::_::_,_=>cases tp<;>rfl
theorem cL:∀ {vs:List DV},Mj vs=true→C3 (DV.encL vs)=true
 |[],_=>rfl
 | v::r,h=>by
   simp only[Mj,Ah] at h
   simp only[DV.encL,C3,Ah]
   refine⟨?_,cL h.2⟩
   cases v<;>first|rfl|cases h.1
theorem rz{v:DV}(h:Mj v.cells=true):v≠.any:=by
 rintro rfl;simp[DV.cells,Mj,DV.nflat] at h
theorem n5{n:Nat}{hd:Hd}{p k j o:Nat}{w:DV}{pw:PV}{d d':DS}{s:PS}{g:PX}{v:DV}(hs:ES d s)(hw:EV w pw)(h:Qe n hd p k j o w d=some (g,v,d'))(hg:g.den):∃ s',PW n hd p k j o pw s=some (v.enc,s')∧ES d' s':=by
 unfold Qe at h;split at h
 · rename_i r l hk;by_cases hc:(w.cells.length == n&&Nat.ble (o+n) r.w&&Mj w.cells)=true
   · rw[Ab hc] at h;simp only[Ah,AW] at hc;obtain⟨⟨rfl,hl⟩,hf⟩:=hc;have hl:=CC hl
     cases hof:r.of (Ic (r.dv .own (lGet (lGet (α:=List r.D) l k []) j r.dflt)) o w.cells) with
     |none=>rw[hof] at h;cases h
     | some y=>
       rw[hof] at h;simp only[Aj,Ak] at h;obtain⟨rfl,rfl,rfl⟩:=h;obtain⟨g1,g2⟩:=hg
       have hne:BU d hd [p]≠.any:=by rw[hk];simp
       have e1:=Hj hs hd [p] hne;rw[hk] at e1;have hL:lGet (α:=List r.D) l k []=List.getD (α:=List r.D) l k []:=N5 (α:=List r.D) l k [];rw[hL] at g2 hof;have g2':j<List.length (α:=r.D) (List.getD (α:=List r.D) l k []):=g2;have e4:=GJ r (List.getD (α:=List r.D) l k []) j g2';have e5:=Oq hof;rw[Py,UK,N5] at e5;have e6:Bc (List.map (RT.enc r) (List.getD (α:=List r.D) l k [])) j (RT.enc r y)=List.map (RT.enc r) (List.set (α:=r.D) (List.getD (α:=List r.D) l k []) j y):=P1 r _ j y;have e7:Bc (List.map (RT.enc (.one (.sl r))) l) k [PV.sl .own (List.map (RT.enc r) (List.set (α:=r.D) (List.getD (α:=List r.D) l k []) j y))]=List.map (RT.enc (.one (.sl r))) (List.set (α:=List r.D) l k (List.set (α:=r.D) (List.getD (α:=List r.D) l k []) j y)):=P1 (.one (.sl r)) l k (List.set (α:=r.D) (List.getD (α:=List r.D) l k []) j y);have e3:=LG hs hd [p] (.sl .own (.one (.sl r)) (lSet (α:=List r.D) l k (lSet (lGet (α:=List r.D) l k []) j y))) hne
       have hS:lSet (α:=List r.D) l k (lSet (lGet (α:=List r.D) l k []) j y)=List.set (α:=List r.D) l k (List.set (α:=r.D) (List.getD (α:=List r.D) l k []) j y):=by
        rw[hL];exact(QA (α:=List r.D) l k _).trans (congrArg (fun z=>List.set (α:=List r.D) l k z) (QA (α:=r.D) _ j y))
       rw[hw.of (rz hf)];have e1':CH s hd [p]= .sl .own (List.map (RT.enc (.one (.sl r))) l):=e1;have e2':AU (List.map (RT.enc (.one (.sl r))) l) k=[.sl .own (List.map (RT.enc r) (List.getD (α:=List r.D) l k []))]:=GJ (.one (.sl r)) l k g1;have e5':Aw (RT.enc r (List.getD (α:=r.D) (List.getD (α:=List r.D) l k []) j r.dflt)) o (DV.encL w.cells)=RT.enc r y:=e5;unfold PW;rw[e1'];simp only[Bb];rw[Ab g1,e2'];simp only[Bb,Jn,Es];rw[Ab ⟨g2',trivial,by rw[e4,KC];exact hl,cL hf⟩,e4,e5',e6,e7];refine⟨_,rfl,?_⟩;rw[hS] at e3 ⊢;exact e3
   · rw[Ad hc] at h;cases h
 · cases h
theorem tf(hd:Hd)(v:DV)(h:v≠.any):(YY hd v).enc=HI hd v.enc:=by
 cases v<;>first|rfl|exact absurd rfl h|skip
 case nil q=>cases q<;>rfl
 case sl q r l=>cases q<;>rfl
 case agg cs=>show PV.agg _=PV.agg _;rw[P2]
 case tup vs=>
  simp only[YY,DV.enc,HI,NG];split<;>rfl
theorem oP{d:DS}{s:PS}(x:Opnd)(h:ES d s)(hk:(JE x d).1.ok=true):(KX x s).1=(JE x d).1.enc∧ES (JE x d).2 (KX x s).2:=by
 cases x with
 | c v=>
   refine⟨?_,h⟩;refine(TI v fun he=>?_).symm;simp only[JE,he,DV.ok,AL] at hk
 | t n=>
   simp only[JE] at hk
   have hn:Bj d.sl n≠.any:=by intro e;rw[e] at hk;cases hk
   simp only[JE,KX];rw[(h.sl.get n).of hn,tf _ _ hn];exact⟨rfl,h⟩
theorem H5:∀ (l:List V),GG l=true→l.all V.flat=true∧DV.encL (Gk l)=l.map Bo∧CZ (Gk l)=true
 |[],_=>⟨rfl,rfl,rfl⟩
 | v::r,h=>by
   simp only[GG,Ah] at h;obtain⟨h1,h2,h3⟩:=H5 r h.2
   have hv:(IG v).cell=true∧(IG v).enc=Bo v:=by cases v<;>first|exact⟨rfl,rfl⟩|(have:=h.1;cases this)
   refine⟨by simp only[Fx,h.1,h1,CL],?_,?_⟩
   · simp only[Gk,DV.encL,Cd,h2,hv.2]
   · simp only[Gk,CZ,hv.1,h3,CL]
theorem Wd:∀ (ps:List (Nat×Nat×Opnd)) {cs cs':List DV} {d d':DS} {s:PS},ES d s→It cs ps d=some (cs',d')→∃ s',D0 (DV.encL cs) ps s=some (DV.encL cs',s')∧ES d' s'
 | [],cs,cs',d,d',s,hs,h=>by
   simp only[It,Aj,Ak] at h
   obtain⟨rfl,rfl⟩:=h
   exact⟨s,rfl,hs⟩
 | (off,size,x)::r,cs,cs',d,d',s,hs,h=>by
   unfold It at h
   by_cases hc:((A7 x d).1.cells.length == size&&Nat.ble (off+size) cs.length&&CZ (A7 x d).1.cells)=true
   · rw[Ab hc] at h
     simp only[Ah,AW] at hc
     obtain⟨⟨h1,h2⟩,h3⟩:=hc
     obtain⟨m1,m2⟩:=Ep x hs (PZ _ h3)
     obtain⟨s',e1,e2⟩:=Wd r m2 h
     refine⟨s',?_,e2⟩
     unfold D0
     rw[m1,Jn,Es,Es,Ab ⟨h1,CC h2,LP _ h3⟩,← Py]
     exact e1
   · rw[Ad hc] at h;cases h
theorem dG:∀ (n:Nat) (l:List DV),DV.encL (l.take n)=(DV.encL l).take n
 |0,_=>rfl
 |_+1,[]=>rfl
 |n+1,_::r=>by simp only[YO,DV.encL,dG n r]
theorem dH:∀ (n:Nat) (l:List DV),DV.encL (l.drop n)=(DV.encL l).drop n
 |0,_=>rfl
 |_+1,[]=>rfl
 |n+1,_::r=>by simp only[List.drop_succ_cons,DV.encL,dH n r]
theorem bw(r:RT)(w:Nat):∀ (n:Nat) (cs:List DV) (l:List r.D),NX r w n cs=some l→DX w n (DV.encL cs)=l.map (RT.enc r)
 | 0,cs,l,h=>by
   simp only[NX,Aj] at h;subst h;rfl
 | n + 1,cs,l,h=>by
   unfold NX at h
   cases h1:r.of (cs.take w) with
   |none=>rw[h1] at h;cases h
   | some x=>
     cases h2:NX r w n (cs.drop w) with
     |none=>rw[h1,h2] at h;cases h
     | some y=>
       rw[h1,h2] at h
       have:=Cx h
       subst this
       simp only[DX,Cd,← dG,← dH,Oq h1,bw r w n _ y h2]
def DSrc.es:DSrc→List (List PV)
 |.nil=>[]
 |.sl r l=>l.map (RT.enc r)
theorem QO{r:RT}{x:DSrc}{l:List r.D}(h:x.to r=some l):x.es=l.map (RT.enc r):=by
 cases x with
 |nil=>have:=Cx h;subst this;rfl
 |sl r' l'=>exact(TA h).2
theorem gq:∀ (t:CT) (x:t.D),t.flat=true→(CT.enc t x).flatc=true
 |.int _,_,_|.bool,_,_|.str,_,_|.ifc,_,_=>rfl
theorem gD:∀ (r:RT) (x:r.D),r.flat=true→C3 (RT.enc r x)=true
 |.one t,x,h=>by simp only[RT.enc,C3,gq t x h,CL]
 | .cons t r,x,h=>by
   simp only[RT.flat,Ah] at h
   simp only[RT.enc,C3,gq t x.1 h.1,gD r x.2 h.2,CL]
theorem eU(r:RT)(h:r.flat=true):∀ (l:List r.D),Is (l.map (RT.enc r))=true
 |[]=>rfl
 |x::l=>by simp only[Cd,Is,gD r x h,eU r h l,CL]
theorem uB{w:Nat}{x:DSrc}(h:x.w w=true):Cl w x.es=true:=by
 cases x with
 |nil=>rfl
 | sl r l=>
   have:r.w=w:=by simpa [DSrc.w] using h
   subst this;exact E0 r l
theorem mv_ok{d:DS}{x:Opnd}(v:DV)(hx:x.dev d.sl=v)(ho:v.own=true)(hb:∀ hd,v.bor hd=false)(hk:v.ok=true):(A7 x d).1=v:=by
 cases x with
 |c c=>exact hx
 | t n=>
   have hx':Bj d.sl n=v:=hx;simp only[A7,Q5,hx',ho,hb,AN,AL,AX]
theorem Wp{w:Nat}{y:Opnd}{d d':DS}{s:PS}{new:DSrc}(hs:ES d s)(h:IA w y d=some (new,d')):∃ s',Ew w y s=some (new.es,s')∧ES d' s':=by
 have hy:=y.dev_ev hs;unfold IA at h;unfold Ew
 cases hv:y.dev d.sl with
 | str t=>
   rw[hv] at h hy;simp only at h;by_cases hw:(w == 1)=true
   · rw[Ab hw] at h;simp only[Aj,Ak] at h;obtain⟨rfl,rfl⟩:=h;rw[hy.of (by simp)];simp only[DV.enc];rw[Ab (by simpa using hw)];refine⟨s,?_,hs⟩
     have:(DSrc.sl (.one (.int .u8)) (sRow t)).es=t.map fun b=>[PV.fl (.int .u8 b.toNat)]:=by
      unfold DSrc.es;rw[iH];clear hy hv
      induction t with
      |nil=>rfl
      |cons b t ih=>exact congrArg (List.cons _) ih
     rw[this]
   · rw[Ad hw] at h;cases h
 | nil q=>
   rw[hv] at h hy;have hp:=hy.of (by simp)
   cases q with
   | own=>
     simp only[Aj,Ak] at h;obtain⟨rfl,rfl⟩:=h;have hk:=mv_ok (.nil .own) hv rfl (fun _=>rfl) rfl;obtain⟨m1,m2⟩:=Ep y hs (by rw[hk];rfl);rw[hp];exact⟨_,rfl,m2⟩
   | frz=>
     simp only[Aj,Ak] at h;obtain⟨rfl,rfl⟩:=h;rw[hp];exact⟨s,rfl,hs⟩
   | ownw w'=>
     simp only[Aj,Ak] at h;obtain⟨rfl,rfl⟩:=h;rw[hp];exact⟨s,rfl,hs⟩
   | bor a b c=>
     simp only[Aj,Ak] at h;obtain⟨rfl,rfl⟩:=h;rw[hp];exact⟨s,rfl,hs⟩
   | pre a b=>
     simp only[Aj,Ak] at h;obtain⟨rfl,rfl⟩:=h;rw[hp];exact⟨s,rfl,hs⟩
 | sl q r l=>
   rw[hv] at h hy;have hp:=hy.of (by simp)
   have key:(if (r.w == w&&r.flat)=true then some (DSrc.sl r l,d) else none)=some (new,d')→Cl w (l.map (RT.enc r))=true∧Is (l.map (RT.enc r))=true∧new.es=l.map (RT.enc r)∧d'=d:=fun h=>by
    by_cases hw:(r.w == w&&r.flat)=true
    · rw[Ab hw] at h;simp only[Ah,AW] at hw;simp only[Aj,Ak] at h;obtain⟨rfl,rfl⟩:=h;exact⟨hw.1▸E0 r l,eU r hw.2 l,rfl,rfl⟩
    · rw[Ad hw] at h;cases h
   rw[hp]
   cases q with
   | own=>
     simp only at h;by_cases hw:(r.w == w)=true
     · rw[Ab hw] at h;simp only[Aj,Ak] at h;obtain⟨rfl,rfl⟩:=h;have hk:=mv_ok (.sl .own r l) hv rfl (fun _=>rfl) rfl;obtain⟨m1,m2⟩:=Ep y hs (by rw[hk];rfl)
       have hw':r.w=w:=by simpa using hw
       simp only[DV.enc];rw[Ab (hw'▸E0 r l)];exact⟨_,rfl,m2⟩
     · rw[Ad hw] at h;cases h
   |ownw w'=>cases h
   |frz=>obtain⟨k1,k2,k3,rfl⟩:=key h;simp only[DV.enc];rw[Ab ⟨k1,k2⟩,k3];exact⟨s,rfl,hs⟩
   |bor a b c=>obtain⟨k1,k2,k3,rfl⟩:=key h;simp only[DV.enc];rw[Ab ⟨k1,k2⟩,k3];exact⟨s,rfl,hs⟩
   |pre a b=>obtain⟨k1,k2,k3,rfl⟩:=key h;simp only[DV.enc];rw[Ab ⟨k1,k2⟩,k3];exact⟨s,rfl,hs⟩
 |_=>rw[hv] at h;cases h
theorem Ma{x:DSrc}{r:RT}{l:List r.D}(h:x.to r=some l):x.es.length=l.length:=by rw[QO h,Bb]
theorem di{w:Nat}{x:Opnd}{new:DSrc}{d d':DS}{s:PS}{g:PX}{v:DV}(hs:ES d s)(h:Oy w x new d=some (g,v,d'))(hg:g.den):∃ s',HE w x new.es s=some (v.enc,s')∧ES d' s':=by
 have hx:=x.dev_ev hs;unfold Oy at h;by_cases h0:(Nat.blt 0 w&&new.w w)=true
 · simp only [h0,E6,AL,AX] at h;simp only[Ah] at h0;have hw0:0<w:=CC h0.1;unfold HE
   cases hv:x.dev d.sl with
   | nil q =>
     rw[hv] at h hx;rw[hx.of (by simp)]
     cases q with
     | own=>
       have hk:=mv_ok (.nil .own) hv rfl (fun _=>rfl) rfl;obtain⟨m1,m2⟩:=Ep x hs (by rw[hk];rfl)
       cases new with
       | nil=>
         simp only[Aj,Ak] at h;obtain⟨rfl,rfl,rfl⟩:=h;simp only[DV.enc,DSrc.es,AK,E7,JG,Ir];rw[Ab ⟨hw0,rfl,HB _⟩];exact⟨_,rfl,m2⟩
       | sl r l=>
         simp only[Aj,Ak] at h;obtain⟨rfl,rfl,rfl⟩:=h;simp only[DV.enc,DSrc.es,AK,BF,Bb,CQ];rw[Ab ⟨hw0,rfl,hg⟩];exact⟨_,rfl,m2⟩
     | bor hd p t=>
       cases t with
       | false=>cases p with
         |nil=>cases h
         |cons c p=>cases p<;>cases h
       | true=>
         match p,h with
         | [c],h=>
           simp only at h ⊢
           cases hk:BU d hd [c]<;>rw[hk] at h<;>try (cases h;done)
           rename_i q
           cases q<;>try (cases h;done)
           have hne:BU d hd [c]≠.any:=by rw[hk];simp
           have e1:=Hj hs hd [c] hne;rw[hk] at e1;have e3:=LG hs hd [c] .undef hne
           cases new with
           | nil=>
             simp only[Aj,Ak] at h;obtain⟨rfl,rfl,rfl⟩:=h;simp only[DV.enc,e1,DSrc.es,AK,E7,JG,Ir];rw[Ab ⟨hw0,rfl,trivial,HB _⟩];exact⟨_,rfl,e3⟩
           | sl r l=>
             simp only[Aj,Ak] at h;obtain⟨rfl,rfl,rfl⟩:=h;simp only[DV.enc,e1,DSrc.es,AK,BF,Bb,CQ];rw[Ab ⟨hw0,rfl,trivial,hg⟩];exact⟨_,rfl,e3⟩
         |[],h=>cases h
         |_::_::_,h=>cases h
     |_=>cases h
   | sl q r l=>
     rw[hv] at h hx;rw[hx.of (by simp)]
     cases q with
     | own =>
       simp only at h;by_cases hw:(r.w == w)=true
       · rw[Ab hw] at h
         have hw':r.w=w:=by simpa using hw
         cases ht:new.to r with
         |none=>rw[ht] at h;cases h
         | some n=>
           rw[ht] at h;simp only[Aj,Ak] at h;obtain⟨rfl,rfl,rfl⟩:=h;have hk:=mv_ok (.sl .own r l) hv rfl (fun _=>rfl) rfl;obtain⟨m1,m2⟩:=Ep x hs (by rw[hk];rfl);simp only[DV.enc,Bb,Ma ht];rw[Ab ⟨hw0,hw'▸E0 r l,hg⟩,QO ht];refine⟨_,?_,m2⟩;simp only[L4,F4]
       · rw[Ad hw] at h;cases h
     | bor hd p t=>
       cases t with
       | false=>cases p with
         |nil=>cases h
         |cons c p=>cases p<;>cases h
       | true=>
         match p,h with
         | [c],h=>
           simp only at h ⊢
           cases hk:BU d hd [c]<;>rw[hk] at h<;>try (cases h;done)
           rename_i q rh lh
           cases q<;>try (cases h;done)
           simp only at h;by_cases hw:(rh.w == w)=true
           · rw[Ab hw] at h
             have hw':rh.w=w:=by simpa using hw
             cases ht:new.to rh with
             |none=>rw[ht] at h;cases h
             | some n=>
               rw[ht] at h;simp only[Aj,Ak] at h;obtain⟨rfl,rfl,rfl⟩:=h
               have hne:BU d hd [c]≠.any:=by rw[hk];simp
               have e1:=Hj hs hd [c] hne;rw[hk] at e1;have e3:=LG hs hd [c] .undef hne;simp only[DV.enc,e1,Bb,Ma ht];rw[Ab ⟨hw0,hw'▸E0 rh lh,hg.1,hg.2⟩,QO ht];refine⟨_,?_,e3⟩;simp only[L4,F4,DV.enc]
           · rw[Ad hw] at h;cases h
         |[],h=>cases h
         |_::_::_,h=>cases h
     | pre hd p=>
      match p,h with
      | [c],h=>
        simp only at h ⊢
        cases hk:BU d hd [c]<;>rw[hk] at h<;>try (cases h;done)
        rename_i q rh lh
        cases q<;>try (cases h;done)
        simp only at h;by_cases hw:(rh.w == w)=true
        · rw[Ab hw] at h
          have hw':rh.w=w:=by simpa using hw
          cases ht:new.to rh with
          |none=>rw[ht] at h;cases h
          | some n=>
            rw[ht] at h;simp only[Aj,Ak] at h;obtain⟨rfl,rfl,rfl⟩:=h
            have hne:BU d hd [c]≠.any:=by rw[hk];simp
            have e1:=Hj hs hd [c] hne;rw[hk] at e1;have e3:=LG hs hd [c] .undef hne;simp only[DV.enc,e1,Bb,Ma ht];rw[Ab ⟨hw0,hw'▸E0 rh lh,hg.1,hg.2.1,hg.2.2.2⟩,QO ht,Ad (Nat.ne_of_gt hg.2.2.1)];refine⟨_,?_,e3⟩;simp only[L4,XM,Re,F4,List.map_take,DV.enc]
        · rw[Ad hw] at h;cases h
      |[],h=>cases h
      |_::_::_,h=>cases h
     |_=>cases h
   |_=>rw[hv] at h;cases h
 · simp only[h0] at h;cases h
theorem dt{zs:List V}(h:GG zs=true):EL (news (Gk zs)) (zs.map Bo):=by rw[← (H5 zs h).2.1];exact EL.news _
theorem EB.append{c:List DC}{p:List PV}:∀ {a:List (List DC)} {b:List (List PV)},EB a b→EBx c p→EB (a++[c]) (b++[p])
 |[],[],_,h=>⟨h,trivial⟩
 |_::_,_::_,h,h'=>⟨h.1,EB.append h.2 h'⟩
theorem nL(r:RT)(x:r.D)(n:Nat):(List.replicate n x).map (RT.enc r)=List.replicate n (RT.enc r x):=by simp
theorem ck{m:Bool}{o:AOp}{ty:Option RT}{d d':DS}{s:PS}{g:PX}{v:DV}(hs:ES d s)(h:Bs m o ty d=some (g,v,d'))(hg:g.den):∃ s',Bm m o s=some (v.enc,s')∧ES d' s':=by
 have E:=fun x=>Opnd.dev_ev hs x
 have pure:(Om o (fun x=>x.dev d.sl)).map (fun r=>(r.1,r.2,d))=some (g,v,d')→∃ s',Bm m o s=some (v.enc,s')∧ES d' s':=fun h=>by
  cases hp:Om o (fun x=>x.dev d.sl) with
  |none=>rw[hp] at h;cases h
  | some r=>
    obtain⟨g1,v1⟩:=r;rw[hp] at h;simp only[Cc,Aj,Ak] at h;obtain⟨rfl,rfl,rfl⟩:=h;exact⟨s,pe hs hp hg,hs⟩
 cases o<;>first|exact pure h|skip
 case mv x=>
  cases m with
  | false=>
    simp only[Bs,AL,AX] at h;by_cases hk:(A7 x d).1.ok=true
    · rw[Ab hk] at h;simp only[Aj,Ak] at h;obtain⟨rfl,rfl,rfl⟩:=h;obtain⟨m1,m2⟩:=Ep x hs hk;exact⟨_,by simp only[Bm,AL,AX,← m1],m2⟩
    · rw[Ad hk] at h;cases h
  | true=>
    simp only[Bs,AN] at h;by_cases hk:(JE x d).1.ok=true
    · rw[Ab hk] at h;simp only[Aj,Ak] at h;obtain⟨rfl,rfl,rfl⟩:=h;obtain⟨m1,m2⟩:=oP x hs hk;exact⟨_,by simp only[Bm,AN,← m1],m2⟩
    · rw[Ad hk] at h;cases h
 case loadB i n a=>exact bO hs (E a) h
 case loadH n a=>
  simp only[Bs] at h
  cases hn:Iq m n (a.dev d.sl) d with
  | none=>
    rw[hn] at h;obtain⟨s',h1,h2⟩:=bN hs (E a) h hg;refine⟨s',?_,h2⟩
    have hne:a.dev d.sl≠.any:=by
     intro e;simp only[e,KI] at h;cases h
    simp only[Bm,qu (s:=s) (E a) hne hn];exact h1
  | some r=>
    rw[hn] at h;obtain⟨h1,rfl⟩:=cj hs (E a) hn h hg;exact⟨s,by simp only[Bm,h1];rfl,hs⟩
 case loadX i c n a=>
  simp only[Bs] at h;split at h
  · rename_i hx
    cases hn:Iq m n (a.dev d.sl) d with
    |none=>rw[hn] at h;cases h
    | some r=>
      rw[hn] at h;obtain⟨h1,rfl⟩:=cj hs (E a) hn h hg;exact⟨s,by simp only[Bm,rU (E a) hx,AN,h1];rfl,hs⟩
  · cases h
 case storeB i n a x=>exact n9 hs h
 case storeH n a x=>
  simp only[Bs] at h;split at h
  · rename_i hok;have hn:=sO (E a) (fun e=>by rw[e] at hok;cases hok);split at h
    · rename_i hd p k j o hm;obtain⟨s',h1,h2⟩:=n5 hs (E x) h hg;exact⟨s',by simp only[Bm,hn,hm];exact h1,h2⟩
    · rename_i hm;obtain⟨s',h1,h2⟩:=oe hs h hg;exact⟨s',by simp only[Bm,hn,hm];exact h1,h2⟩
  · cases h
 case appN w x y=>
  simp only[Bs] at h;split at h
  · rename_i hx
    cases h1:IA w y d with
    |none=>rw[h1] at h;cases h
    | some r=>
      obtain⟨new,d1⟩:=r;rw[h1] at h;obtain⟨s1,e1,e2⟩:=Wp hs h1;obtain⟨s2,e3,e4⟩:=di e2 h hg;have ex:=(E x).of (by rw[hx];simp);rw[hx] at ex;exact⟨s2,by simp only[Bm,ex,DV.enc,e1];exact e3,e4⟩
  · cases h
 case app w x y=>
  simp only[Bs] at h
  cases h1:IA w y d with
  |none=>rw[h1] at h;cases h
  | some r=>
    obtain⟨new,d1⟩:=r;rw[h1] at h;obtain⟨s1,e1,e2⟩:=Wp hs h1;obtain⟨s2,e3,e4⟩:=di e2 h hg;exact⟨s2,by simp only[Bm,e1];exact e3,e4⟩
 case allocB i zs=>
  simp only[Bs] at h;by_cases hc:(Nat.blt i d.bx.length&&GG zs)=true
  · rw[Ab hc] at h;simp only[Ah] at hc;simp only[Aj,Ak] at h;obtain⟨rfl,rfl,rfl⟩:=h;simp only[Bm];rw[Ab ⟨by rw[← hs.bx.len];exact CC hc.1,(H5 zs hc.2).1⟩];exact⟨_,rfl,(hs.sl.clearBox i).clr _,hs.bx.put i (.inr (dt hc.2)),hs.hp⟩
  · rw[Ad hc] at h;cases h
 case boxB i n x=>
  simp only[Bs] at h;by_cases hc:(Nat.blt i (A7 x d).2.bx.length&&(A7 x d).1.cells.length == n&&CZ (A7 x d).1.cells)=true
  · rw[Ab hc] at h;simp only[Ah,AW] at hc;obtain⟨⟨h1,rfl⟩,h3⟩:=hc;obtain⟨m1,m2⟩:=Ep x hs (PZ _ h3);simp only[Aj,Ak] at h;obtain⟨rfl,rfl,rfl⟩:=h;simp only[Bm,m1,Jn,Es];rw[Ab ⟨by rw[← m2.bx.len];exact CC h1,trivial,LP _ h3⟩];exact⟨_,rfl,(m2.sl.clearBox i).clr _,m2.bx.put i (.inr (EL.news _)),m2.hp⟩
  · rw[Ad hc] at h;cases h
 case allocH zs=>
  simp only[Bs] at h;by_cases hc:GG zs=true
  · rw[Ab hc] at h;simp only[Aj,Ak] at h;obtain⟨rfl,rfl,rfl⟩:=h;simp only[Bm];rw[Ab (H5 zs hc).1,← hs.hp.len];exact⟨_,rfl,hs.sl.clr _,hs.bx,hs.hp.append (.inr (dt hc))⟩
  · rw[Ad hc] at h;cases h
 case boxH n x=>
  simp only[Bs] at h;by_cases hc:((A7 x d).1.cells.length == n&&CZ (A7 x d).1.cells)=true
  · rw[Ab hc] at h;simp only[Ah,AW] at hc;obtain⟨rfl,h3⟩:=hc;obtain⟨m1,m2⟩:=Ep x hs (PZ _ h3);simp only[Aj,Ak] at h;obtain⟨rfl,rfl,rfl⟩:=h;simp only[Bm,m1,Jn,Es];rw[Ab ⟨trivial,LP _ h3⟩,← m2.hp.len];exact⟨_,rfl,m2.sl.clr _,m2.bx,m2.hp.append (.inr (EL.news _))⟩
  · rw[Ad hc] at h;cases h
 case build zs ps=>
  simp only[Bs] at h;by_cases hc:GG zs=true
  · rw[Ab hc] at h
    cases hf:It (Gk zs) ps d with
    |none=>rw[hf] at h;cases h
    | some r=>
      obtain⟨cs,d1⟩:=r;rw[hf] at h;simp only[Aj,Ak] at h;obtain⟨rfl,rfl,rfl⟩:=h;obtain⟨s',e1,e2⟩:=Wd ps hs hf;rw[(H5 zs hc).2.1] at e1;simp only[Bm];rw[Ab (H5 zs hc).1,e1];exact⟨s',rfl,e2⟩
  · rw[Ad hc] at h;cases h
 case mkSlice w z len=>
  simp only[Bs] at h
  cases he:len.dev d.sl with
  | int k n=>
    rw[he] at h
    cases k<;>try (cases h)
    simp only at h;split at h
    · rename_i r hr;split at h
      · rename_i x hx;split at h
        · rename_i hc;simp only[Ah,AW] at hc;obtain⟨⟨⟨h1,h2⟩,h3⟩,h4⟩:=hc;simp only[Aj,Ak] at h;obtain⟨rfl,rfl,rfl⟩:=h;have hp:=E len;rw[he] at hp;simp only[Bm,hp.of (by simp),DV.enc];rw[Ab ⟨hg.1,h1,CC h3,(H5 z h4).1,hg.2⟩];refine⟨s,?_,hs⟩;rw[iD];rw[nL,← Oq hx,(H5 z h4).2.1]
        · cases h
      · cases h
    · cases h
  |_=>rw[he] at h;cases h
 case litSlice w n zs ps=>
  simp only[Bs] at h;by_cases hn:(n == 0)=true
  · rw[Ab hn] at h;simp only[Aj,Ak] at h;obtain⟨rfl,rfl,rfl⟩:=h;simp only[Bm];rw[Ab (by simpa using hn)];refine⟨s,?_,hs⟩;cases ty<;>rfl
  · rw[Ad hn] at h;split at h
    · rename_i hc;simp only[Ah,AW] at hc;obtain⟨⟨h1,h2⟩,h3⟩:=hc;split at h
      · rename_i cs d1 hf;split at h
        · rename_i r hr;split at h
          · split at h
            · rename_i l hl;simp only[Aj,Ak] at h;obtain⟨rfl,rfl,rfl⟩:=h;obtain⟨s',e1,e2⟩:=Wd ps hs hf;rw[(H5 zs h1).2.1] at e1;simp only[Bm];rw[Ad (by simpa using hn),Ab ⟨(H5 zs h1).1,h2,CC h3⟩,e1];refine⟨s',?_,e2⟩;simp only[Cc,DV.enc,bw r w n cs l hl]
            · cases h
          · cases h
        · cases h
      · cases h
    · cases h
 case extract x i=>
  simp only[Bs] at h
  cases x with
  |c v=>cases h
  | t t =>
    simp only at h;have ht:EV (Bj d.sl t) (Aa s.sl t):=hs.sl.get t
    cases hv:Bj d.sl t with
    | tup vs=>
      rw[hv] at h ht;simp only at h;have hp:Aa s.sl t= .tup (DV.encL vs):=ht.of (by simp);split at h
      · rename_i hc;simp only[Ah] at hc;simp only[Bm,hp];rw[Es,Ab (show i<vs.length from CC hc.1),← NF,Jx,T4];split at h
        · rename_i ho;rw[Ab ho];split at h
          · cases h
          · rename_i hb;rw[Ad hb];simp only[Aj,Ak] at h;obtain⟨rfl,rfl,rfl⟩:=h;refine⟨_,rfl,?_,hs.bx,hs.hp⟩;refine(EL.put t hs.sl (.inr ?_)).clr _;show PV.tup _=PV.tup _;rw[TQ];rfl
        · rename_i ho;rw[Ad ho];simp only[Aj,Ak] at h;obtain⟨rfl,rfl,rfl⟩:=h;exact⟨_,rfl,hs⟩
      · cases h
    |_=>rw[hv] at h;cases h
theorem XC{w:Nat}{new:DSrc}{r:RT}{n:List r.D}(h:new.to r=some n)(l:List r.D)(hw:r.w=w):l.map (RT.enc r)++new.es=(l++n).map (RT.enc r)∧Cl w (l.map (RT.enc r)++new.es)=true:=by
 have:l.map (RT.enc r)++new.es=(l++n).map (RT.enc r):=by rw[QO h,F4]
 exact⟨this,by rw[this];exact hw▸E0 r (l++n)⟩
theorem UD{w:Nat}{es:List (List PV)}(h:Cl w es=true):El [(0,w)] (.sl .own es)=some (.sl (.ownw w) es):=by
 show Fg w (.sl .own es)=_;simp only[Fg];rw[Ab h]
theorem uS{w:Nat}{es:List (List PV)}:El [(0,w)] (.sl (.ownw w) es)=some (.sl (.ownw w) es):=by
 show Fg w (.sl (.ownw w) es)=_;simp only[Fg,AN]
theorem Qt{w:Nat}{es:List (List PV)}{c:Prop} [Decidable c](h:Cl w es=true):El [(0,w)] (.sl (if c then .ownw w else .own) es)=some (.sl (.ownw w) es):=by
 split
 · exact uS
 · exact UD h
theorem pA{w:Nat}{x:Opnd}{new:DSrc}{d d':DS}{s:PS}{g:PX}{v:DV}(hs:ES d s)(h:QV w x new d=some (g,v,d'))(hg:g.den):∃ s' v0,HE w x new.es s=some (v0,s')∧El [(0,w)] v0=some v.enc∧ES d' s':=by
 have hx:=x.dev_ev hs;unfold QV at h;by_cases h0:(Nat.blt 0 w&&new.w w)=true
 · simp only [h0,E6,AL,AX] at h;simp only[Ah] at h0;have hw0:0<w:=CC h0.1;have haw:=uB h0.2;unfold HE
   cases hv:x.dev d.sl with
   | nil q =>
     rw[hv] at h hx;rw[hx.of (by simp)]
     cases q with
     | own=>
       have hk:=mv_ok (.nil .own) hv rfl (fun _=>rfl) rfl;obtain⟨m1,m2⟩:=Ep x hs (by rw[hk];rfl);simp only[DV.enc,AK,BF,CQ]
       cases new with
       | nil=>
         simp only[KV,Aj,Ak] at h;obtain⟨rfl,rfl,rfl⟩:=h;rw[Ab ⟨hw0,rfl,by simp[DSrc.es,AE]⟩];exact⟨_,_,rfl,UD haw,m2⟩
       | sl r l=>
         simp only[KV,Aj,Ak] at h;obtain⟨rfl,rfl,rfl⟩:=h;rw[Ab ⟨hw0,rfl,by simpa [DSrc.es,PX.den] using hg⟩];exact⟨_,_,rfl,UD haw,m2⟩
     | ownw w'=>
       simp only at h;by_cases hw':(w' == w)=true
       · rw[Ab hw'] at h
         have hw':w'=w:=by simpa using hw'
         subst hw';have hk:=mv_ok (.nil (.ownw w')) hv rfl (fun _=>rfl) rfl;obtain⟨m1,m2⟩:=Ep x hs (by rw[hk];rfl);simp only[DV.enc,AK,BF,CQ]
         cases new with
         | nil=>
           simp only[KV,Aj,Ak] at h;obtain⟨rfl,rfl,rfl⟩:=h;rw[Ab ⟨hw0,trivial,rfl,by simp[DSrc.es,AE]⟩];exact⟨_,_,rfl,Qt haw,m2⟩
         | sl r l=>
           simp only[KV,Aj,Ak] at h;obtain⟨rfl,rfl,rfl⟩:=h;rw[Ab ⟨hw0,trivial,rfl,by simpa [DSrc.es,PX.den] using hg⟩];exact⟨_,_,rfl,Qt haw,m2⟩
       · rw[Ad hw'] at h;cases h
     |_=>cases h
   | sl q r l=>
     rw[hv] at h hx;rw[hx.of (by simp)]
     cases q with
     | own =>
       simp only at h;by_cases hw:(r.w == w)=true
       · rw[Ab hw] at h
         have hw':r.w=w:=by simpa using hw
         cases ht:new.to r with
         |none=>rw[ht] at h;cases h
         | some n=>
           rw[ht] at h;simp only[Aj,Ak] at h;obtain⟨rfl,rfl,rfl⟩:=h;have hk:=mv_ok (.sl .own r l) hv rfl (fun _=>rfl) rfl;obtain⟨m1,m2⟩:=Ep x hs (by rw[hk];rfl);obtain⟨a1,a2⟩:=XC ht l hw';simp only[DV.enc,Bb,Ma ht];rw[Ab ⟨hw0,hw'▸E0 r l,hg⟩];exact⟨_,_,rfl,by rw[UD a2,a1];simp only[L4],m2⟩
       · rw[Ad hw] at h;cases h
     | ownw w'=>
       simp only at h;by_cases hw:(w' == w&&r.w == w)=true
       · rw[Ab hw] at h;simp only[Ah,AW] at hw;obtain⟨rfl,hw'⟩:=hw
         cases ht:new.to r with
         |none=>rw[ht] at h;cases h
         | some n=>
           rw[ht] at h;simp only[Aj,Ak] at h;obtain⟨rfl,rfl,rfl⟩:=h;have hk:=mv_ok (.sl (.ownw w') r l) hv rfl (fun _=>rfl) rfl;obtain⟨m1,m2⟩:=Ep x hs (by rw[hk];rfl);obtain⟨a1,a2⟩:=XC ht l hw';simp only[DV.enc,Bb,Ma ht];rw[Ab ⟨hw0,trivial,hw'▸E0 r l,hg⟩];exact⟨_,_,rfl,by rw[Qt a2,a1];simp only[L4],m2⟩
       · rw[Ad hw] at h;cases h
     | pre hd p=>
      match p,h with
      | [c],h=>
        simp only at h ⊢
        cases hk:BU d hd [c]<;>rw[hk] at h<;>try (cases h;done)
        rename_i q rh lh
        have hne:BU d hd [c]≠.any:=by rw[hk];simp
        have e1:=Hj hs hd [c] hne;rw[hk] at e1;have e3:=LG hs hd [c] .undef hne
        have tk:∀ {n:List rh.D},new.to rh=some n→rh.w=w→(lh.map (RT.enc rh)).take l.length++new.es=(lApp (lTake lh (lN l)) n).map (RT.enc rh)∧Cl w ((lh.map (RT.enc rh)).take l.length++new.es)=true:=by
         intro n ht hw';have:=XC ht (lh.take l.length) hw';rw[List.map_take] at this;simp only[L4,XM,Re];exact this
        cases q<;>try (cases h;done)
        case own=>
         simp only at h;by_cases hw:(rh.w == w)=true
         · rw[Ab hw] at h
           have hw':rh.w=w:=by simpa using hw
           cases ht:new.to rh with
           |none=>rw[ht] at h;cases h
           | some n=>
             rw[ht] at h;simp only[Aj,Ak] at h;obtain⟨rfl,rfl,rfl⟩:=h;obtain⟨a1,a2⟩:=tk ht hw';simp only[DV.enc,e1,Bb,Ma ht];rw[Ab ⟨hw0,hw'▸E0 rh lh,hg.1,hg.2.1,hg.2.2⟩];exact⟨_,_,rfl,by rw[Qt a2,a1],e3⟩
         · rw[Ad hw] at h;cases h
        case ownw w'=>
         simp only at h;by_cases hw:(w' == w&&rh.w == w)=true
         · rw[Ab hw] at h;simp only[Ah,AW] at hw;obtain⟨rfl,hw'⟩:=hw
           cases ht:new.to rh with
           |none=>rw[ht] at h;cases h
           | some n=>
             rw[ht] at h;simp only[Aj,Ak] at h;obtain⟨rfl,rfl,rfl⟩:=h;obtain⟨a1,a2⟩:=tk ht hw';simp only[DV.enc,e1,Bb,Ma ht];rw[Ab ⟨hw0,trivial,hw'▸E0 rh lh,hg.1,hg.2.1,hg.2.2⟩];exact⟨_,_,rfl,by rw[Qt a2,a1],e3⟩
         · rw[Ad hw] at h;cases h
      |[],h=>cases h
      |_::_::_,h=>cases h
     |_=>cases h
   |_=>rw[hv] at h;cases h
 · simp only[h0] at h;cases h
theorem Yd{w:Nat}{v v':DV}(h:Rf w v=some v'):Fg w v.enc=some v'.enc:=by
 unfold Rf at h;split at h
 · cases h;rfl
 · split at h
   · rename_i hw;have hw:=AW.mp hw;subst hw;cases h;simp only[DV.enc,Fg,AN]
   · cases h
 · rename_i r l;split at h
   · rename_i hw;have hw:=AW.mp hw;cases h;simp only[DV.enc,Fg];rw[Ab (hw▸E0 r l)]
   · cases h
 · split at h
   · rename_i hw;have hw:=AW.mp hw;subst hw;cases h;simp only[DV.enc,Fg,AN]
   · cases h
 · cases h
theorem hU:∀ (ws:List (Nat×Nat)) {l l':List DV},U1 ws l=some l'→MG ws (DV.encL l)=some (DV.encL l')
 |[],l,l',h=>by cases h;rfl
 | (c,w)::r,l,l',h=>by
   unfold U1 at h
   split at h
   · rename_i v hv
     unfold MG
     rw[← NF,Yd hv]
     simp only
     rw[← TQ]
     exact hU r h
   · cases h
theorem wX{ws:List (Nat×Nat)}{v v':DV}(h:MH ws v=some v'):El ws v.enc=some v'.enc:=by
 unfold MH at h;split at h
 · simp only[BE] at h;obtain⟨l',h1,rfl⟩:=h;show (MG ws _).map PV.agg=_;rw[hU ws h1];rfl
 · rename_i q;split at h
   · exact Yd (v:=.nil q) h
   · cases h
 · rename_i q r l;split at h
   · exact Yd (v:=.sl q r l) h
   · cases h
 · cases h
theorem oG{ws:List (Nat×Nat)}{m:Bool}{o:AOp}{ty:Option RT}{d d':DS}{s:PS}{g:PX}{v:DV}(hs:ES d s)(h:Mk ws m o ty d=some (g,v,d'))(hg:g.den):∃ s' v0,Bm m o s=some (v0,s')∧El ws v0=some v.enc∧ES d' s':=by
 have gen:(match Bs m o ty d with|some (g,v,st)=>(match MH ws v with|some v=>some (g,v,st)|none=>none)|none=>none)=some (g,v,d')→∃ s' v0,Bm m o s=some (v0,s')∧El ws v0=some v.enc∧ES d' s':=by
  intro h
  cases h1:Bs m o ty d with
  |none=>rw[h1] at h;cases h
  | some r=>
    obtain⟨g1,v1,d1⟩:=r;rw[h1] at h;simp only at h
    cases h2:MH ws v1 with
    |none=>rw[h2] at h;cases h
    | some v2=>
      rw[h2] at h;simp only[Aj,Ak] at h;obtain⟨rfl,rfl,rfl⟩:=h;obtain⟨s',e1,e2⟩:=ck hs h1 hg;exact⟨s',_,e1,wX h2,e2⟩
 cases o<;>first|exact gen h|skip
 case app w x y=>
  simp only[Mk] at h;split at h
  · rename_i w';split at h
    · rename_i hw;have hw:=AW.mp hw;subst hw
      cases h1:IA w' y d with
      |none=>rw[h1] at h;cases h
      | some r=>
        obtain⟨new,d1⟩:=r;rw[h1] at h;obtain⟨s1,e1,e2⟩:=Wp hs h1;obtain⟨s2,v0,e3,e4,e5⟩:=pA e2 h hg;exact⟨s2,v0,by simp only[Bm,e1];exact e3,e4,e5⟩
    · cases h
  · cases h
def Chg:List DC→List DC→Prop
 |_,[]=>True
 |[],c::r=>c.d=true∧Chg [] r
 |b::a,c::r=>(c.d=true∨c=b)∧Chg a r
def ChgB:List (List DC)→List (List DC)→Prop
 |_,[]=>True
 |[],c::r=>Chg [] c∧ChgB [] r
 |b::a,c::r=>Chg b c∧ChgB a r
structure ChgS (x y:DS):Prop where
 sl:Chg x.sl y.sl
 bx:ChgB x.bx y.bx
 hp:ChgB x.hp y.hp
theorem Chg.refl:∀ (x:List DC),Chg x x
 |[]=>trivial
 |_::r=>⟨.inr rfl,Chg.refl r⟩
theorem Chg.trans:∀ {x y z:List DC},Chg x y→Chg y z→Chg x z
 |_,_,[],_,_=>by cases ‹List DC›<;>trivial
 |[],[],_::_,_,h=>h
 |_::a,[],c::r,_,h=>⟨.inl h.1,Chg.trans (x:=a) (y:=[]) (by cases a<;>trivial) h.2⟩
 | [],b::a,c::r,h,h'=>by
   refine⟨?_,Chg.trans h.2 h'.2⟩
   rcases h'.1 with h1|h1
   · exact h1
   · rw[h1];exact h.1
 | e::x,b::a,c::r,h,h'=>by
   refine⟨?_,Chg.trans h.2 h'.2⟩
   rcases h'.1 with h1|h1
   · exact .inl h1
   · rw[h1];exact h.1
theorem ChgB.refl:∀ (x:List (List DC)),ChgB x x
 |[]=>trivial
 |b::r=>⟨Chg.refl b,ChgB.refl r⟩
theorem ChgB.trans:∀ {x y z:List (List DC)},ChgB x y→ChgB y z→ChgB x z
 |_,_,[],_,_=>by cases ‹List (List DC)›<;>trivial
 |[],[],_::_,_,h=>h
 |b::a,[],c::r,_,h=>⟨Chg.trans (y:=[]) (by trivial) h.1,ChgB.trans (x:=a) (y:=[]) (by cases a<;>trivial) h.2⟩
 |[],b::a,c::r,h,h'=>⟨h.1.trans h'.1,ChgB.trans h.2 h'.2⟩
 |e::x,b::a,c::r,h,h'=>⟨h.1.trans h'.1,ChgB.trans h.2 h'.2⟩
theorem ChgS.refl(x:DS):ChgS x x:=⟨Chg.refl _,ChgB.refl _,ChgB.refl _⟩
theorem ChgS.trans{x y z:DS}(h:ChgS x y)(h':ChgS y z):ChgS x z:=⟨h.sl.trans h'.sl,h.bx.trans h'.bx,h.hp.trans h'.hp⟩
theorem Chg.put:∀ (x:List DC) (n:Nat) (v:DV),Chg x (C4 x n v)
 |[],_,_=>trivial
 |_::r,0,_=>⟨.inl rfl,Chg.refl r⟩
 |_::r,n+1,v=>⟨.inr rfl,Chg.put r n v⟩
theorem Chg.clr(hd:Hd):∀ (x:List DC),Chg x (C6 hd x)
 |[]=>trivial
 | c::r=>by
   refine⟨?_,Chg.clr hd r⟩
   split
   · exact .inl rfl
   · exact .inr rfl
theorem Chg.clearBox(i:Nat):∀ (x:List DC),Chg x (PH i x)
 |[]=>trivial
 | c::r=>by
   refine⟨?_,Chg.clearBox i r⟩
   split
   · exact .inl rfl
   · exact .inr rfl
theorem Chg.keep(live:List Nat):∀ (n:Nat) (x:List DC),Chg x (Uo live n x)
 |_,[]=>trivial
 | n,c::r=>by
   refine⟨?_,Chg.keep live (n+1) r⟩
   split
   · split
     · exact .inl rfl
     · exact .inr rfl
   · exact .inl rfl
theorem Chg.trim(live:List Nat):∀ (n:Nat) (x:List DC),Chg x (UQ live n x)
 |_,[]=>trivial
 | n,c::r=>by
   refine⟨?_,Chg.trim live (n+1) r⟩
   split
   · exact .inr rfl
   · exact .inl rfl
theorem Chg.splice:∀ (x:List DC) (n:Nat) (vs:List DV),Chg x (Ie x n vs)
 |[],n,[]=>trivial
 |_::_,0,[]=>Chg.refl _
 |_::_,_+1,[]=>Chg.refl _
 |[],_,_::_=>trivial
 |_::r,0,v::vs=>⟨.inl rfl,Chg.splice r 0 vs⟩
 |_::r,n+1,v::vs=>⟨.inr rfl,Chg.splice r n (v::vs)⟩
theorem Chg.news:∀ (x:List DC) (vs:List DV),Chg x (Go.Ag.news vs)
 |x,[]=>by cases x<;>trivial
 |[],v::vs=>⟨rfl,Chg.news [] vs⟩
 |_::a,v::vs=>⟨.inl rfl,Chg.news a vs⟩
theorem ChgB.put:∀ (x:List (List DC)) (i:Nat) {v:List DC},Chg (Bz x i) v→ChgB x (E8 x i v)
 |[],_,_,_=>trivial
 |_::r,0,_,h=>⟨h,ChgB.refl r⟩
 |_::r,n+1,v,h=>⟨Chg.refl _,ChgB.put r n h⟩
theorem ChgB.app:∀ (x:List (List DC)) (vs:List DV),ChgB x (x++[Go.Ag.news vs])
 |[],vs=>⟨Chg.news [] vs,trivial⟩
 |b::r,vs=>⟨Chg.refl b,ChgB.app r vs⟩
theorem Chg.rem:∀ {x y:List DC},Chg (Go.Ag.clean x) y→Chg x (Oz x y)
 |x,[],_=>by cases x<;>trivial
 |[],_::_,h=>h
 | b :: a,c::r,h=>by
   refine⟨?_,Chg.rem h.2⟩
   rcases h.1 with h1|h1
   · left;simp[h1]
   · subst h1
     cases hb:b.d with
     |true=>left;rfl
     |false=>right;obtain⟨d,v⟩:=b;simp only at hb;subst hb;rfl
theorem ChgB.rem:∀ {x y:List (List DC)},ChgB (Of x) y→ChgB x (Q4 x y)
 |x,[],_=>by cases x<;>trivial
 |[],_::_,h=>h
 |b::a,c::r,h=>⟨h.1.rem,ChgB.rem h.2⟩
theorem ChgS.rem{x y:DS}(h:ChgS x.clean y):ChgS x (K4 x y):=⟨h.sl.rem,h.bx.rem,h.hp.rem⟩
theorem ChgS.put(d:DS)(n:Option Nat)(v:DV):ChgS d (d.put n v):=by
 cases n with
 |none=>exact ChgS.refl d
 | some n=>
   simp only[DS.put];split
   · exact⟨(Chg.put _ _ _).trans (Chg.clr _ _),ChgB.refl _,ChgB.refl _⟩
   · exact⟨Chg.put _ _ _,ChgB.refl _,ChgB.refl _⟩
theorem ChgS.mvOut(x:Opnd)(d:DS):ChgS d (A7 x d).2:=by
 cases x with
 |c v=>exact ChgS.refl d
 | t n=>
   simp only[A7,Q5];split
   · split
     · exact ChgS.refl d
     · exact⟨(Chg.put _ _ _).trans (Chg.clr _ _),ChgB.refl _,ChgB.refl _⟩
   · exact ChgS.refl d
theorem ChgS.fzOut(x:Opnd)(d:DS):ChgS d (L6 x d).2:=by
 cases x with
 |c v=>exact ChgS.refl d
 | t n=>
   simp only[L6,UZ];split
   · split
     · exact⟨(Chg.put _ _ _).trans (Chg.clr _ _),ChgB.refl _,ChgB.refl _⟩
     · exact ChgS.refl d
   · exact ChgS.refl d
theorem ChgS.setK(d:DS)(v:DV):∀ (hd:Hd) (p:List Nat),ChgS d (Gd d v hd p)
 |.s t,p=>⟨(Chg.put _ _ _).trans (Chg.clr _ _),ChgB.refl _,ChgB.refl _⟩
 |.b i,[c]=>⟨Chg.clr _ _,ChgB.put _ _ (Chg.put _ _ _),ChgB.refl _⟩
 |.h i,[c]=>⟨Chg.clr _ _,ChgB.refl _,ChgB.put _ _ (Chg.put _ _ _)⟩
 |.b i,[]=>ChgS.refl d
 |.b i,_::_::_=>ChgS.refl d
 |.h i,[]=>ChgS.refl d
 |.h i,_::_::_=>ChgS.refl d
 |.x i,_=>ChgS.refl d
theorem WT:∀ (ps:List (Nat×Nat×Opnd)) {cs cs':List DV} {d d':DS},It cs ps d=some (cs',d')→ChgS d d'
 | [],cs,cs',d,d',h=>by
   simp only[It,Aj,Ak] at h
   obtain⟨_,rfl⟩:=h
   exact ChgS.refl d
 | (off,size,x)::r,cs,cs',d,d',h=>by
   unfold It at h
   split at h
   · exact(ChgS.mvOut x d).trans (WT r h)
   · cases h
theorem Xq{w:Nat}{y:Opnd}{d d':DS}{new:DSrc}(h:IA w y d=some (new,d')):ChgS d d':=by
 unfold IA at h
 split at h<;>(try split at h)<;>first|(cases h;done)|(simp only[Aj,Ak] at h;obtain⟨_,rfl⟩:=h;first|exact ChgS.refl _|exact ChgS.mvOut y d)
theorem fh{w:Nat}{x:Opnd}{new:DSrc}{d d':DS}{g:PX}{v:DV}(h:Oy w x new d=some (g,v,d')):ChgS d d':=by
 unfold Oy at h;split at h
 · cases h
 · repeat' split at h
   all_goals first|(cases h;done)|(simp only[Aj,Ak] at h;obtain⟨_,_,rfl⟩:=h;first|exact ChgS.mvOut x d|exact ChgS.setK _ _ _ _)
theorem dn{m:Bool}{i:Nat}{n:Option Nat}{a:DV}{d d':DS}{g:PX}{v:DV}(h:Mg m i n a d=some (g,v,d')):ChgS d d':=by
 unfold Mg at h;split at h
 · cases m with
   | true=>
     simp only[AN] at h;split at h
     · simp only[BE,Ak] at h;obtain⟨_,_,_,_,rfl⟩:=h;exact⟨Chg.clr _ _,ChgB.put _ _ (Chg.splice _ _ _),ChgB.refl _⟩
     · cases h
   | false=>
     simp only[AL,AX] at h;split at h
     · simp only[BE,Ak] at h;obtain⟨_,_,_,_,rfl⟩:=h;exact ChgS.refl _
     · cases h
 · cases h
theorem cO{m:Bool}{n:Option Nat}{a:DV}{d d':DS}{g:PX}{v:DV}(h:KI m n a d=some (g,v,d')):ChgS d d':=by
 unfold KI at h;split at h
 · cases m with
   | true=>
     simp only[AN] at h;split at h
     · simp only[BE,Ak] at h;obtain⟨_,_,_,_,rfl⟩:=h;exact⟨Chg.clr _ _,ChgB.refl _,ChgB.put _ _ (Chg.splice _ _ _)⟩
     · cases h
   | false=>
     simp only[AL,AX] at h;split at h
     · simp only[BE,Ak] at h;obtain⟨_,_,_,_,rfl⟩:=h;exact ChgS.refl _
     · cases h
 · split at h
   · split at h
     · simp only[BE,Ak] at h;obtain⟨_,_,_,_,rfl⟩:=h;exact ChgS.refl _
     · cases h
   · cases h
 · cases h
theorem pG{i n:Nat}{a x:Opnd}{d d':DS}{g:PX}{v:DV}(h:Qf i n a x d=some (g,v,d')):ChgS d d':=by
 unfold Qf at h;simp only at h;split at h
 · split at h
   · simp only[Aj,Ak] at h;obtain⟨_,_,rfl⟩:=h;refine(ChgS.mvOut x d).trans ⟨?_,ChgB.put _ _ (Chg.splice _ _ _),ChgB.refl _⟩;split
     · exact Chg.clr _ _
     · exact Chg.refl _
   · cases h
 · cases h
theorem pD{n:Nat}{a x:Opnd}{d d':DS}{g:PX}{v:DV}(h:Qj n a x d=some (g,v,d')):ChgS d d':=by
 unfold Qj at h;simp only at h;split at h
 · split at h
   · simp only[Aj,Ak] at h;obtain⟨_,_,rfl⟩:=h;refine(ChgS.mvOut x d).trans ⟨?_,ChgB.refl _,ChgB.put _ _ (Chg.splice _ _ _)⟩;dsimp only;split
     · exact Chg.clr _ _
     · exact Chg.refl _
   · cases h
 · split at h
   · split at h
     · split at h
       · simp only[Aj,Ak] at h;obtain⟨_,_,rfl⟩:=h;exact(ChgS.mvOut x d).trans (ChgS.setK _ _ _ _)
       · cases h
     · cases h
   · cases h
 · cases h
theorem dO{m:Bool}{n:Option Nat}{a:DV}{d d':DS}{r:D1}{g:PX}{v:DV}(h:Iq m n a d=some r)(hr:r=some (g,v,d')):ChgS d d':=by
 unfold Iq at h;split at h
 · simp only[Aj] at h;rw[hr] at h;split at h
   · simp only[Aj,Ak] at h;obtain⟨_,_,rfl⟩:=h;exact ChgS.refl _
   · cases h
 · cases h
theorem pc{n:Nat}{hd:Hd}{p k j o:Nat}{w:DV}{d d':DS}{g:PX}{v:DV}(h:Qe n hd p k j o w d=some (g,v,d')):ChgS d d':=by
 unfold Qe at h;split at h
 · split at h
   · split at h
     · simp only[Aj,Ak] at h;obtain⟨_,_,rfl⟩:=h;exact ChgS.setK _ _ _ _
     · cases h
   · cases h
 · cases h
theorem vp(x:Opnd)(d:DS):(JE x d).2=d:=by cases x<;>rfl
theorem qP{w:Nat}{new:DSrc}{d d':DS}{g:PX}{v:DV}(h:KV w new d=some (g,v,d')):d'=d:=by
 unfold KV at h;split at h<;>(simp only[Aj,Ak] at h;exact h.2.2.symm)
theorem rr{w:Nat}{x:Opnd}{new:DSrc}{d d':DS}{g:PX}{v:DV}(h:QV w x new d=some (g,v,d')):ChgS d d':=by
 unfold QV at h;split at h
 · cases h
 · repeat' split at h
   all_goals first|(cases h;done)|(have:=qP h;subst this;exact ChgS.mvOut x d)|(simp only[Aj,Ak] at h;obtain⟨_,_,rfl⟩:=h;first|exact ChgS.mvOut x d|exact ChgS.setK _ _ _ _)
theorem dE{m:Bool}{o:AOp}{ty:Option RT}{d d':DS}{g:PX}{v:DV}(h:Bs m o ty d=some (g,v,d')):ChgS d d':=by
 have pure:(Om o (fun x=>x.dev d.sl)).map (fun r=>(r.1,r.2,d))=some (g,v,d')→ChgS d d':=fun h=>by
  simp only[BE,Ak] at h;obtain⟨_,_,_,_,rfl⟩:=h;exact ChgS.refl _
 cases o<;>first|exact pure h|skip
 case mv x=>
  cases m with
  | true=>
    simp only[Bs,AN] at h;split at h
    · simp only[Aj,Ak] at h;obtain⟨_,_,rfl⟩:=h;rw[vp];exact ChgS.refl d
    · cases h
  | false=>
    simp only[Bs,AL,AX] at h;split at h
    · simp only[Aj,Ak] at h;obtain⟨_,_,rfl⟩:=h;exact ChgS.mvOut x d
    · cases h
 case loadB i n a=>exact dn h
 case loadH n a=>
  simp only[Bs] at h;split at h
  · rename_i h1;exact dO h1 h
  · exact cO h
 case loadX i c n a=>
  simp only[Bs] at h;split at h
  · split at h
    · rename_i h1;exact dO h1 h
    · cases h
  · cases h
 case storeB i n a x=>exact pG h
 case storeH n a x=>
  simp only[Bs] at h;split at h
  · split at h
    · exact pc h
    · exact pD h
  · cases h
 case app w x y=>
  simp only[Bs] at h;split at h
  · rename_i h1;exact(Xq h1).trans (fh h)
  · cases h
 case appN w x y=>
  simp only[Bs] at h;split at h
  · split at h
    · rename_i h1;exact(Xq h1).trans (fh h)
    · cases h
  · cases h
 case allocB i zs=>
  simp only[Bs] at h;split at h
  · simp only[Aj,Ak] at h;obtain⟨_,_,rfl⟩:=h;exact⟨(Chg.clearBox _ _).trans (Chg.clr _ _),ChgB.put _ _ (Chg.news _ _),ChgB.refl _⟩
  · cases h
 case boxB i n x=>
  simp only[Bs] at h;split at h
  · simp only[Aj,Ak] at h;obtain⟨_,_,rfl⟩:=h;exact(ChgS.mvOut x d).trans ⟨(Chg.clearBox _ _).trans (Chg.clr _ _),ChgB.put _ _ (Chg.news _ _),ChgB.refl _⟩
  · cases h
 case allocH zs=>
  simp only[Bs] at h;split at h
  · simp only[Aj,Ak] at h;obtain⟨_,_,rfl⟩:=h;exact⟨Chg.clr _ _,ChgB.refl _,ChgB.app _ _⟩
  · cases h
 case boxH n x=>
  simp only[Bs] at h;split at h
  · simp only[Aj,Ak] at h;obtain⟨_,_,rfl⟩:=h;exact(ChgS.mvOut x d).trans ⟨Chg.clr _ _,ChgB.refl _,ChgB.app _ _⟩
  · cases h
 case build zs ps=>
  simp only[Bs] at h;split at h
  · split at h
    · rename_i hf;simp only[Aj,Ak] at h;obtain⟨_,_,rfl⟩:=h;exact WT ps hf
    · cases h
  · cases h
 case mkSlice w z len=>
  simp only[Bs] at h
  repeat' split at h
  all_goals first|(cases h;done)|(simp only[Aj,Ak] at h;obtain⟨_,_,rfl⟩:=h;exact ChgS.refl _)
 case litSlice w n zs ps=>
  simp only[Bs] at h;split at h
  · simp only[Aj,Ak] at h;obtain⟨_,_,rfl⟩:=h;exact ChgS.refl _
  · split at h
    · split at h
      · rename_i hf;have:=WT ps hf
        repeat' split at h
        all_goals first|(cases h;done)|(simp only[Aj,Ak] at h;obtain⟨_,_,rfl⟩:=h;exact this)
      · cases h
    · cases h
 case extract x i=>
  simp only[Bs] at h
  repeat' split at h
  all_goals first|(cases h;done)|(simp only[Aj,Ak] at h;obtain⟨_,_,rfl⟩:=h;first|exact ChgS.refl _|exact⟨(Chg.put _ _ _).trans (Chg.clr _ _),ChgB.refl _,ChgB.refl _⟩)
theorem ql{ws:List (Nat×Nat)}{m:Bool}{o:AOp}{ty:Option RT}{d d':DS}{g:PX}{v:DV}(h:Mk ws m o ty d=some (g,v,d')):ChgS d d':=by
 have gen:(match Bs m o ty d with|some (g,v,st)=>(match MH ws v with|some v=>some (g,v,st)|none=>none)|none=>none)=some (g,v,d')→ChgS d d':=by
  intro h
  cases h1:Bs m o ty d with
  |none=>rw[h1] at h;cases h
  | some r=>
    obtain⟨g1,v1,d1⟩:=r;rw[h1] at h;simp only at h
    cases h2:MH ws v1 with
    |none=>rw[h2] at h;cases h
    | some v2=>
      rw[h2] at h;simp only[Aj,Ak] at h;obtain⟨_,_,rfl⟩:=h;exact dE h1
 cases o<;>first|exact gen h|skip
 case app w x y=>
  simp only[Mk] at h;split at h
  · split at h
    · split at h
      · rename_i h1;exact(Xq h1).trans (rr h)
      · cases h
    · cases h
  · cases h
theorem Bg{α:Type}(x y:α):bSel true x y=x:=by simp only[YJ,GK,GC]
theorem AY{α:Type}(x y:α):bSel false x y=y:=by simp only[YJ,GK,GC]
theorem iu(c:Bool)(x y:BX):(U0 c x y).b=bif c then x.b else y.b:=by
 cases x<;>cases y<;>rename_i x y<;>cases c<;>cases x<;>cases y<;>simp[U0,BX.b,N6,jm,Yp,YJ]
theorem Mf{q q':Ql}(h:Em q q'=true):q=q':=of_decide_eq_true h
mutual
theorem UA(c:Bool):∀ (x y:DV),CR c x y= .any∨(CR c x y).enc=(bif c then x.enc else y.enc)
 | .undef,y=>by
   cases y<;>first|exact .inl rfl|skip
   case undef=>cases c<;>exact .inr rfl
 | .bool a,y=>by
   cases y<;>first|exact .inl rfl|skip
   case bool b=>right;simp only[CR,DV.enc,iu];cases c<;>rfl
 | .int k a,y=>by
   cases y<;>first|exact .inl rfl|skip
   case int k' b=>
    simp only[CR]
    split
    · rename_i hk;have:=T5 hk;subst this
      right;cases c<;>simp only[DV.enc,Bg,AY,GK,GC]
    · exact .inl rfl
 | .str a,y=>by
   cases y<;>first|exact .inl rfl|skip
   case str b=>right;cases c<;>simp only[CR,DV.enc,Bg,AY,GK,GC]
 | .ifc a,y=>by
   cases y<;>first|exact .inl rfl|skip
   case ifc b=>right;cases c<;>simp only[CR,DV.enc,Bg,AY,GK,GC]
 | .nil q,y=>by
   cases y<;>first|exact .inl rfl|skip
   case nil q'=>
    simp only[CR]
    split
    · rename_i hq;have:=Mf hq;subst this;right;cases c<;>rfl
    · exact .inl rfl
   case sl q' r l=>
    simp only[CR]
    split
    · rename_i hq;have:=Mf hq;subst this;right
      cases c<;>simp only[DV.enc,Bg,AY,GK,GC,Oc]
    · exact .inl rfl
 | .sl q r l,y=>by
   cases y<;>first|exact .inl rfl|skip
   case nil q'=>
    simp only[CR]
    split
    · rename_i hq;have:=Mf hq;subst this;right
      cases c<;>simp only[DV.enc,Bg,AY,GK,GC,Oc]
    · exact .inl rfl
   case sl q' r' l'=>
    simp only[CR]
    split
    · rename_i hq;have:=Mf hq;subst this
      split
      · rename_i l2 hl
        right
        cases c<;>simp only[DV.enc,Bg,AY,GK,GC,(TA hl).2]
      · exact .inl rfl
    · exact .inl rfl
 | .box i o,y=>by
   cases y<;>first|exact .inl rfl|skip
   case box i' o'=>
    simp only[CR]
    split
    · rename_i h;simp only[Ah,AW] at h;obtain⟨rfl,rfl⟩:=h;right;cases c<;>rfl
    · exact .inl rfl
 | .ptr i o,y=>by
   cases y<;>first|exact .inl rfl|skip
   case ptr i' o'=>
    simp only[CR]
    split
    · rename_i h;simp only[Ah,AW] at h;obtain⟨rfl,rfl⟩:=h;right;cases c<;>rfl
    · exact .inl rfl
 | .agg a,y=>by
   cases y<;>first|exact .inl rfl|skip
   case agg b=>
    simp only[CR]
    split
    · rename_i h;simp only[Ah,AW] at h
      right
      have:=XD c a b h.1 h.2
      cases c<;>simp only[DV.enc,this,GK,GC]
    · exact .inl rfl
 | .tup a,y=>by
   cases y<;>first|exact .inl rfl|skip
   case tup b=>
    simp only[CR]
    split
    · rename_i h;simp only[Ah,AW] at h
      right
      have:=XD c a b h.1 h.2
      cases c<;>simp only[DV.enc,this,GK,GC]
    · exact .inl rfl
 |.any,y=>by cases y<;>exact .inl rfl
 |.ep _ _ _ _ _,y=>by cases y<;>exact .inl rfl
theorem XD(c:Bool):∀ (x y:List DV),x.length=y.length→DV.okL (JN c x y)=true→DV.encL (JN c x y)=(bif c then DV.encL x else DV.encL y)
 |[],[],_,_=>by cases c<;>rfl
 |[],_::_,h,_=>by cases h
 |_::_,[],h,_=>by cases h
 | x :: a,y::b,h,hk=>by
   simp only[JN,DV.okL,Ah] at hk
   have h1:=XD c a b (by simpa using h) hk.2
   rcases UA c x y with h2|h2
   · rw[h2] at hk;cases hk.1
   · simp only[JN,DV.encL,h1,h2]
     cases c<;>rfl
end
theorem uo{c:Bool}{x y:DV}{p:PV}(h:EV (bif c then x else y) p):EV (CR c x y) p:=by
 rcases UA c x y with h1|h1
 · exact .inl h1
 · cases c with
   | true=>
     rcases h with h|h
     · simp only[GK] at h;subst h;exact .inl (by cases y<;>rfl)
     · exact .inr (by rw[h1];exact h)
   | false=>
     rcases h with h|h
     · simp only[GC] at h;subst h;exact .inl (by cases x<;>rfl)
     · exact .inr (by rw[h1];exact h)
theorem XH{c:Bool}:∀ {b x y:List DC} {p:List PV},Chg b x→Chg b y→x.length=y.length→EL (bif c then x else y) p→EL (QK c x y) p
 |_,[],[],p,_,_,_,h=>by cases c<;>exact h
 |_,[],_::_,_,_,_,h,_=>by cases h
 |_,_::_,[],_,_,_,h,_=>by cases h
 |b,x::a,y::e,[],_,_,_,h=>by cases c<;>exact h.elim
 | b,x::a,y::e,q::p,h1,h2,hl,h=>by
   have hr:∃ b',Chg b' a∧Chg b' e∧((x.d=true∨y.d=true)∨x=y):=by
    cases b with
    |nil=>exact⟨[],h1.2,h2.2,.inl (.inl h1.1)⟩
    | cons b0 b=>
      refine⟨b,h1.2,h2.2,?_⟩;rcases h1.1 with e1|e1
      · exact .inl (.inl e1)
      · rcases h2.1 with e2|e2
        · exact .inl (.inr e2)
        · exact .inr (e1.trans e2.symm)
   obtain⟨b',h3,h4,h5⟩:=hr;have ih:=XH (c:=c) (p:=p) h3 h4 (by simpa using hl) (by cases c<;>exact h.2);refine⟨?_,ih⟩
   have hv:EV (bif c then x.v else y.v) q:=by cases c<;>exact h.1
   unfold U4;split
   · exact uo hv
   · rename_i hd;rcases h5 with h5|h5
     · exfalso;apply hd;rcases h5 with h5|h5<;>simp[h5]
     · subst h5;cases c<;>exact hv
theorem XV{c:Bool}:∀ {b x y:List (List DC)} {p:List (List PV)},ChgB b x→ChgB b y→x.length=y.length→EB (bif c then x else y) p→EB (QQ c x y) p
 |_,[],[],p,_,_,_,h=>by cases c<;>exact h
 |_,[],_::_,_,_,_,h,_=>by cases h
 |_,_::_,[],_,_,_,h,_=>by cases h
 |b,x::a,y::e,[],_,_,_,h=>by cases c<;>exact h.elim
 | b,x::a,y::e,q::p,h1,h2,hl,h=>by
   have hr:∃ b0 b',Chg b0 x∧Chg b0 y∧ChgB b' a∧ChgB b' e:=by
    cases b with
    |nil=>exact⟨[],[],h1.1,h2.1,h1.2,h2.2⟩
    |cons b0 b=>exact⟨b0,b,h1.1,h2.1,h1.2,h2.2⟩
   obtain⟨b0,b',h3,h4,h5,h6⟩:=hr;have ih:=XV (c:=c) (p:=p) h5 h6 (by simpa using hl) (by cases c<;>exact h.2);refine⟨?_,ih⟩
   have hv:EBx (bif c then x else y) q:=by cases c<;>exact h.1
   split
   · rename_i hxy
     have hxy:x.length=y.length:=by simpa using hxy
     rcases hv with hv|hv
     · cases c
       · simp only[GC] at hv;subst hv;have:x=[]:=E4 hxy;subst this;exact .inl rfl
       · simp only[GK] at hv;subst hv;have:y=[]:=E4 hxy.symm;subst this;exact .inl rfl
     · exact .inr (XH h3 h4 hxy hv)
   · exact .inl rfl
theorem vT{c:Bool}{b x y z:DS}{s:PS}(hx:ChgS b x)(hy:ChgS b y)(h:MA c x y=some z)(hs:ES (bif c then x else y) s):ES z s:=by
 unfold MA at h;split at h
 · rename_i hl;simp only[Ah,AW] at hl;simp only[Aj] at h;subst h;exact⟨XH hx.sl hy.sl hl.1.1 (by cases c<;>exact hs.sl),XV hx.bx hy.bx hl.1.2 (by cases c<;>exact hs.bx),XV hx.hp hy.hp hl.2 (by cases c<;>exact hs.hp)⟩
 · cases h
theorem PO{c:Bool}:∀ {b x y:List DC},Chg b x→Chg b y→Chg b (QK c x y)
 |b,[],_,_,_=>by cases b<;>trivial
 |b,_::_,[],_,_=>by cases b<;>trivial
 |[],x::a,y::e,h,h'=>⟨by simp[U4,h.1],PO h.2 h'.2⟩
 | b::_,x::a,y::e,h,h'=>by
   refine⟨?_,PO h.2 h'.2⟩
   unfold U4
   split
   · exact .inl rfl
   · exact h.1
theorem Tm{c:Bool}:∀ {b x y:List (List DC)},ChgB b x→ChgB b y→ChgB b (QQ c x y)
 |b,[],_,_,_=>by cases b<;>trivial
 |b,_::_,[],_,_=>by cases b<;>trivial
 | [],x::a,y::e,h,h'=>by
   refine⟨?_,Tm h.2 h'.2⟩
   split
   · exact PO h.1 h'.1
   · trivial
 | b::_,x::a,y::e,h,h'=>by
   refine⟨?_,Tm h.2 h'.2⟩
   split
   · exact PO h.1 h'.1
   · cases b<;>trivial
theorem tc{c:Bool}{b x y z:DS}(hx:ChgS b x)(hy:ChgS b y)(h:MA c x y=some z):ChgS b z:=by
 unfold MA at h;split at h
 · simp only[Aj] at h;subst h;exact⟨PO hx.sl hy.sl,Tm hx.bx hy.bx,Tm hx.hp hy.hp⟩
 · cases h
theorem PX.land_den:∀ (a b:PX),(a.land b).den↔a.den∧b.den
 |.tt,b=>by simp[PX.land,PX.den]
 |.ff,b=>by simp[PX.land,PX.den]
 |.p h,b=>by cases b<;>simp[PX.land,PX.den]
 |.and x y,b=>by cases b<;>simp[PX.land,PX.den]
 |.ite c x y,b=>by cases b<;>simp[PX.land,PX.den]
theorem PX.if_den(c:Bool)(a b:PX):(PX.if' c a b).den↔(c=true→a.den)∧(c=false→b.den):=by
 cases a<;>cases b<;>simp[PX.if',PX.den]
def AExit.isN:AExit→Bool
 |.normal=>true
 |_=>false
def DT.lf:DT→Option (AExit×DS)
 |.leaf e st=>some (e,st)
 |.node c a b=>(match c with|true=>a.lf|false=>b.lf)
 |.chk _ t=>t.lf
 |.bad=>none
def DT.All(P:DS→Prop):DT→Prop
 |.leaf _ st=>P st
 |.node _ a b=>a.All P∧b.All P
 |.chk _ t=>t.All P
 |.bad=>True
theorem DT.All.imp{P Q:DS→Prop}(h:∀ st,P st→Q st):∀ {t:DT},t.All P→t.All Q
 |.leaf _ _,a=>h _ a
 |.node _ _ _,a=>⟨DT.All.imp h a.1,DT.All.imp h a.2⟩
 |.chk _ t,a=>DT.All.imp h (t:=t) a
 |.bad,_=>trivial
theorem DT.ok_lf:∀ {t:DT},t.ok.den→∃ e st,t.lf=some (e,st)
 |.leaf e st,_=>⟨e,st,rfl⟩
 | .node c a b,h=>by
   have h:=(PX.if_den c a.ok b.ok).mp h
   cases c
   · exact DT.ok_lf (t:=b) (h.2 rfl)
   · exact DT.ok_lf (t:=a) (h.1 rfl)
 |.chk g t,h=>DT.ok_lf (t:=t) ((PX.land_den g t.ok).mp h).2
 |.bad,h=>h.elim
theorem DT.All.lf{P:DS→Prop}:∀ {t:DT} {e:AExit} {st:DS},t.All P→t.lf=some (e,st)→P st
 |.leaf e st,_,_,h,hl=>by simp only[DT.lf,Aj,Ak] at hl;obtain⟨_,rfl⟩:=hl;exact h
 | .node c a b,_,_,h,hl=>by
   cases c
   · exact DT.All.lf (t:=b) h.2 hl
   · exact DT.All.lf (t:=a) h.1 hl
 |.chk g t,_,_,h,hl=>DT.All.lf (t:=t) h hl
 |.bad,_,_,_,hl=>by cases hl
theorem DT.norm_chg{b:DS}:∀ {t:DT} {m:DS},t.All (ChgS b)→t.norm= .some m→ChgS b m
 | .leaf e st,m,h,hn=>by
   cases e<;>simp only[DT.norm,reduceCtorEq,NS.some.injEq] at hn
   subst hn;exact h
 | .node c x y,m,h,hn=>by
   simp only[DT.norm] at hn
   cases h1:x.norm with
   |none=>rw[h1] at hn;exact DT.norm_chg h.2 hn
   | fail=>
     rw[h1] at hn
     cases h2:y.norm<;>rw[h2] at hn<;>cases hn
   | some a=>
     rw[h1] at hn
     cases h2:y.norm with
     |none=>rw[h2] at hn;exact DT.norm_chg h.1 (h1.trans hn)
     |fail=>rw[h2] at hn;cases hn
     | some e=>
       rw[h2] at hn
       simp only at hn
       cases h3:MA c a e with
       |none=>rw[h3] at hn;cases hn
       | some z=>
         rw[h3] at hn
         simp only[NS.some.injEq] at hn
         subst hn
         exact tc (DT.norm_chg h.1 h1) (DT.norm_chg h.2 h2) h3
 |.chk g t,m,h,hn=>DT.norm_chg (t:=t) h hn
 |.bad,m,h,hn=>by cases hn
theorem DT.norm_none:∀ {t:DT} {e:AExit} {st:DS},t.norm= .none→t.lf=some (e,st)→e.isN=false
 | .leaf e st,_,_,hn,hl=>by
   simp only[DT.lf,Aj,Ak] at hl;obtain⟨rfl,_⟩:=hl
   cases e<;>first|rfl|cases hn
 | .node c x y,e,st,hn,hl=>by
   simp only[DT.norm] at hn
   have hxy:x.norm= .none∧y.norm= .none:=by
    cases h1:x.norm<;>rw[h1] at hn<;>cases h2:y.norm<;>rw[h2] at hn<;>first|exact⟨rfl,rfl⟩|(cases hn;done)|(simp only at hn;split at hn<;>cases hn)
   cases c
   · exact DT.norm_none hxy.2 hl
   · exact DT.norm_none hxy.1 hl
 |.chk g t,_,_,hn,hl=>DT.norm_none (t:=t) hn hl
 |.bad,_,_,_,hl=>by cases hl
theorem DT.norm_s{b:DS}:∀ {t:DT} {m st:DS} {s:PS},t.All (ChgS b)→t.norm= .some m→t.lf=some (.normal,st)→ES st s→ES m s
 | .leaf e st0,m,st,s,h,hn,hl,hs=>by
   simp only[DT.lf,Aj,Ak] at hl
   obtain⟨rfl,rfl⟩:=hl
   simp only[DT.norm,NS.some.injEq] at hn
   subst hn;exact hs
 | .node c x y,m,st,s,h,hn,hl,hs=>by
   simp only[DT.norm] at hn
   cases h1:x.norm with
   | none=>
     rw[h1] at hn
     cases c with
     |true=>have:=DT.norm_none h1 hl;cases this
     |false=>exact DT.norm_s h.2 hn hl hs
   | fail=>
     rw[h1] at hn
     cases h2:y.norm<;>rw[h2] at hn<;>cases hn
   | some a=>
     rw[h1] at hn
     cases h2:y.norm with
     | none=>
       rw[h2] at hn
       cases c with
       |true=>exact DT.norm_s h.1 (h1.trans hn) hl hs
       |false=>have:=DT.norm_none h2 hl;cases this
     |fail=>rw[h2] at hn;cases hn
     | some e=>
       rw[h2] at hn
       simp only at hn
       cases h3:MA c a e with
       |none=>rw[h3] at hn;cases hn
       | some z=>
         rw[h3] at hn
         simp only[NS.some.injEq] at hn
         subst hn
         refine vT (DT.norm_chg h.1 h1) (DT.norm_chg h.2 h2) h3 ?_
         cases c with
         |true=>exact DT.norm_s h.1 h1 hl hs
         |false=>exact DT.norm_s h.2 h2 hl hs
 |.chk g t,m,st,s,h,hn,hl,hs=>DT.norm_s (t:=t) h hn hl hs
 |.bad,m,st,s,h,hn,hl,hs=>by cases hl
theorem DT.cont_s:∀ {t:DT} {b:BX} {e:AExit} {st:DS},t.cont=some b→t.lf=some (e,st)→b.b=e.isN
 | .leaf e st0,b,e',st,hc,hl=>by
   simp only[DT.lf,Aj,Ak] at hl;obtain⟨rfl,_⟩:=hl;cases e<;>simp only[DT.cont,Aj] at hc<;>subst hc<;>rfl
 | .node c x y,b,e,st,hc,hl=>by
   have hno:∀ {t:DT},t.cont=none→t.lf=none:=by
    intro t
    induction t with
    |leaf e st=>intro h;cases e<;>cases h
    | node c x y ih1 ih2=>
      intro h;simp only[DT.cont] at h
      cases h1:x.cont<;>rw[h1] at h<;>cases h2:y.cont<;>rw[h2] at h<;>first|(cases h;done)|skip
      cases c
      · exact ih2 h2
      · exact ih1 h1
    |chk g t ih=>intro h;exact ih h
    |bad=>intro _;rfl
   simp only[DT.cont] at hc
   cases h1:x.cont with
   | none=>
     rw[h1] at hc
     cases c with
     |true=>simp only[DT.lf,hno h1] at hl;cases hl
     |false=>exact DT.cont_s hc hl
   | some p=>
     rw[h1] at hc
     cases h2:y.cont with
     | none=>
       rw[h2] at hc
       cases c with
       |true=>exact DT.cont_s (h1.trans hc) hl
       |false=>simp only[DT.lf,hno h2] at hl;cases hl
     | some q=>
       rw[h2] at hc;simp only[Aj] at hc;subst hc;rw[iu]
       cases c with
       |true=>exact DT.cont_s h1 hl
       |false=>exact DT.cont_s h2 hl
 |.chk g t,b,e,st,hc,hl=>DT.cont_s (t:=t) hc hl
 |.bad,b,e,st,hc,hl=>by cases hl
theorem DT.cont_none:∀ {t:DT},t.cont=none→t.lf=none
 |.leaf e st,h=>by cases e<;>cases h
 | .node c x y,h=>by
   simp only[DT.cont] at h
   cases h1:x.cont<;>rw[h1] at h<;>cases h2:y.cont<;>rw[h2] at h<;>first|(cases h;done)|skip
   cases c
   · exact DT.cont_none (t:=y) h2
   · exact DT.cont_none (t:=x) h1
 |.chk g t,h=>DT.cont_none (t:=t) h
 |.bad,_=>rfl
theorem DT.drop_lf:∀ {t:DT} {e:AExit} {st:DS},t.lf=some (e,st)→e.isN=false→t.drop.lf=some (e,st)
 | .leaf e st0,e',st,hl,he=>by
   simp only[DT.lf,Aj,Ak] at hl;obtain⟨rfl,rfl⟩:=hl
   cases e<;>first|rfl|cases he
 | .node c x y,e,st,hl,he=>by
   have hnb:∀ a b:DT,(DT.nodeB c a b).lf=some (e,st)∨(match c with|true=>a.lf|false=>b.lf)≠some (e,st):=by
    intro a b
    cases c with
    | true=>
      cases ha:a with
      |bad=>right;simp[DT.lf]
      | _=>
        rw[← ha];by_cases h:a.lf=some (e,st)
        · left;cases hb:b<;>rw[ha] at h ⊢<;>exact h
        · right;exact h
    | false=>
      cases hb:b with
      |bad=>right;simp[DT.lf]
      | _=>
        rw[← hb];by_cases h:b.lf=some (e,st)
        · left;cases ha:a<;>rw[hb] at h ⊢<;>exact h
        · right;exact h
   simp only[DT.drop];rcases hnb x.drop y.drop with h|h
   · exact h
   · exfalso;apply h
     cases c with
     |true=>exact DT.drop_lf (t:=x) hl he
     |false=>exact DT.drop_lf (t:=y) hl he
 |.chk g t,e,st,hl,he=>DT.drop_lf (t:=t) hl he
 |.bad,e,st,hl,he=>by cases hl
theorem DT.drop_all{P:DS→Prop}:∀ {t:DT},t.All P→t.drop.All P
 |.leaf e st,h=>by cases e<;>first|trivial|exact h
 | .node c x y,h=>by
   have h1:=DT.drop_all h.1
   have h2:=DT.drop_all h.2
   simp only[DT.drop]
   cases hx:x.drop<;>cases hy:y.drop<;>rw[hx] at h1<;>rw[hy] at h2<;>first|trivial|exact h1|exact h2|exact⟨h1,h2⟩
 |.chk g t,h=>DT.drop_all (t:=t) h
 |.bad,_=>trivial
theorem DT.map_lf(f:DS→DS):∀ (t:DT),(t.map f).lf=t.lf.map fun x=>(x.1,f x.2)
 |.leaf _ _=>rfl
 | .node c a b=>by
   cases c
   · exact DT.map_lf f b
   · exact DT.map_lf f a
 |.chk _ t=>DT.map_lf f t
 |.bad=>rfl
theorem DT.map_ok(f:DS→DS):∀ (t:DT),(t.map f).ok=t.ok
 |.leaf _ _=>rfl
 |.node c a b=>by simp only[DT.map,DT.ok,DT.map_ok f a,DT.map_ok f b]
 |.chk _ t=>by simp only[DT.map,DT.ok,DT.map_ok f t]
 |.bad=>rfl
theorem DT.map_all{P Q:DS→Prop}{f:DS→DS}(h:∀ st,P st→Q (f st)):∀ {t:DT},t.All P→(t.map f).All Q
 |.leaf _ _,a=>h _ a
 |.node _ _ _,a=>⟨DT.map_all h a.1,DT.map_all h a.2⟩
 |.chk _ t,a=>DT.map_all h (t:=t) a
 |.bad,_=>trivial
theorem DT.unexit_ok(i:Nat):∀ (t:DT),(t.unexit i).ok=t.ok
 | .leaf e st=>by
   cases e<;>first|rfl|skip
   simp only[DT.unexit];split<;>rfl
 |.node c a b=>by simp only[DT.unexit,DT.ok,DT.unexit_ok i a,DT.unexit_ok i b]
 |.chk _ t=>by simp only[DT.unexit,DT.ok,DT.unexit_ok i t]
 |.bad=>rfl
def AExit.un(i:Nat):AExit→AExit
 |.exit j=>if j=i then .normal else .exit j
 |e=>e
theorem DT.unexit_lf(i:Nat):∀ (t:DT),(t.unexit i).lf=t.lf.map fun x=>(x.1.un i,x.2)
 | .leaf e st=>by
   cases e<;>first|rfl|skip
   rename_i j
   simp only[DT.unexit,DT.lf,Cc,AExit.un]
   by_cases h:j=i
   · rw[Ab (by simpa using h),Ab h];rfl
   · rw[Ad (by simpa using h),Ad h];rfl
 | .node c a b=>by
   cases c
   · exact DT.unexit_lf i b
   · exact DT.unexit_lf i a
 |.chk _ t=>DT.unexit_lf i t
 |.bad=>rfl
theorem DT.unexit_all{P:DS→Prop}(i:Nat):∀ {t:DT},t.All P→(t.unexit i).All P
 | .leaf e st,a=>by
   cases e<;>first|exact a|skip
   simp only[DT.unexit];split<;>exact a
 |.node _ _ _,a=>⟨DT.unexit_all i a.1,DT.unexit_all i a.2⟩
 |.chk _ t,a=>DT.unexit_all i (t:=t) a
 |.bad,_=>trivial
theorem DT.chk_ok(g:PX)(t:DT):(DT.chk' g t).ok.den↔g.den∧t.ok.den:=by
 cases g<;>simp only[DT.chk',DT.ok,PX.land_den,PX.den,Kw]
theorem DT.chk_lf(g:PX)(t:DT):(DT.chk' g t).lf=t.lf:=by cases g<;>rfl
theorem DT.chk_all{P:DS→Prop}(g:PX){t:DT}(h:t.All P):(DT.chk' g t).All P:=by cases g<;>exact h
theorem DT.bind_s{f:DS→DT}{h:DS→DS}:∀ {t:DT} {e:AExit} {st:DS},(t.bind f h).ok.den→(t.bind f h).lf=some (e,st) →
 t.ok.den∧((∃ st0,t.lf=some (.normal,st0)∧(f st0).ok.den∧(f st0).lf=some (e,st))∨(e.isN=false∧∃ st0,t.lf=some (e,st0)∧st=h st0))
 | .leaf e0 st0,e,st,ho,hl=>by
   cases e0 with
   |normal=>exact⟨trivial,.inl ⟨st0,rfl,ho,hl⟩⟩
   | ret=>
     simp only[DT.bind,DT.lf,Aj,Ak] at hl
     obtain⟨rfl,rfl⟩:=hl
     exact⟨trivial,.inr ⟨rfl,st0,rfl,rfl⟩⟩
   | exit i=>
     simp only[DT.bind,DT.lf,Aj,Ak] at hl
     obtain⟨rfl,rfl⟩:=hl
     exact⟨trivial,.inr ⟨rfl,st0,rfl,rfl⟩⟩
 | .node c a b,e,st,ho,hl=>by
   have ho:=(PX.if_den c _ _).mp ho
   cases c with
   | true=>
     obtain⟨h1,h2⟩:=DT.bind_s (t:=a) (ho.1 rfl) hl
     exact⟨(PX.if_den _ _ _).mpr ⟨fun _=>h1,fun h=>by cases h⟩,h2⟩
   | false=>
     obtain⟨h1,h2⟩:=DT.bind_s (t:=b) (ho.2 rfl) hl
     exact⟨(PX.if_den _ _ _).mpr ⟨fun h=>(by cases h),fun _=>h1⟩,h2⟩
 | .chk g t,e,st,ho,hl=>by
   have ho:=(PX.land_den g _).mp ho
   obtain⟨h1,h2⟩:=DT.bind_s (t:=t) ho.2 hl
   exact⟨(PX.land_den _ _).mpr ⟨ho.1,h1⟩,h2⟩
 |.bad,e,st,ho,hl=>ho.elim
theorem DT.bind_all{P Q:DS→Prop}{f:DS→DT}{h:DS→DS}(hf:∀ st,P st→(f st).All Q)(hh:∀ st,P st→Q (h st)):∀ {t:DT},t.All P→(t.bind f h).All Q
 |.leaf e st,a=>by cases e<;>first|exact hf _ a|exact hh _ a
 |.node _ _ _,a=>⟨DT.bind_all hf hh a.1,DT.bind_all hf hh a.2⟩
 |.chk _ t,a=>DT.bind_all hf hh (t:=t) a
 |.bad,_=>trivial
theorem DT.then_s{b:DS}{f:DS→DT}{h:DS→DS}{t:DT}{e:AExit}{st:DS}(hb:t.All (ChgS b))(ho:(t.then f h).ok.den)(hl:(t.then f h).lf=some (e,st)) :
 t.ok.den∧((∃ st0 m,t.lf=some (.normal,st0)∧(∀ s,ES st0 s→ES m s)∧ChgS b m∧(f m).ok.den∧(f m).lf=some (e,st))∨(e.isN=false∧∃ st0,t.lf=some (e,st0)∧st=h st0)):=by
 have viaBind:(t.bind f h).ok.den→(t.bind f h).lf=some (e,st)→t.ok.den∧((∃ st0 m,t.lf=some (.normal,st0)∧(∀ s,ES st0 s→ES m s)∧ChgS b m∧(f m).ok.den∧(f m).lf=some (e,st))∨(e.isN=false∧∃ st0,t.lf=some (e,st0)∧st=h st0)):=fun ho hl=>by
  obtain⟨h1,h2⟩:=DT.bind_s ho hl;refine⟨h1,h2.imp ?_ id⟩;rintro⟨st0,h3,h4,h5⟩;exact⟨st0,st0,h3,fun _ h=>h,hb.lf h3,h4,h5⟩
 unfold DT.then at ho hl
 split at ho
 · rename_i hn
   rw[Ab hn] at hl;exact viaBind ho hl
 · rename_i hn
   rw[Ad hn] at hl
   cases hm:t.norm with
   |none=>rw[hm] at ho hl;exact viaBind ho hl
   |fail=>rw[hm] at ho hl;exact viaBind ho hl
   | some m=>
     rw[hm] at ho hl;simp only[DT.chk_ok,DT.chk_lf] at ho hl;obtain⟨ho1,ho2⟩:=ho;refine⟨ho1,?_⟩;obtain⟨e0,st0,h0⟩:=DT.ok_lf ho1
     have nrm:e0.isN=true→(f m).ok.den→(f m).lf=some (e,st)→((∃ st0 m,t.lf=some (.normal,st0)∧(∀ s,ES st0 s→ES m s)∧ChgS b m∧(f m).ok.den∧(f m).lf=some (e,st))∨(e.isN=false∧∃ st0,t.lf=some (e,st0)∧st=h st0)):=fun he h1 h2=>by
      have he:e0= .normal:=by cases e0<;>first|rfl|cases he
      subst he;exact .inl ⟨st0,m,h0,fun s hs=>DT.norm_s hb hm h0 hs,DT.norm_chg hb hm,h1,h2⟩
     cases hc:t.cont with
     |none=>rw[hc] at ho2;exact ho2.elim
     | some c=>
       have hcs:=DT.cont_s hc h0
       cases c with
       | lit c=>
         cases c with
         |false=>rw[hc] at ho2;exact ho2.elim
         | true=>
           rw[hc] at ho2 hl;exact nrm hcs.symm ho2 hl
       | dyn c=>
         rw[hc] at ho2 hl;simp only[BX.b] at hcs;subst hcs;have ho2:=(PX.if_den _ _ _).mp ho2
         cases he:e0.isN with
         | true=>
           rw[he] at hl;exact nrm he (ho2.1 he) hl
         | false=>
           rw[he] at hl;simp only[DT.lf,DT.map_lf,DT.drop_lf h0 he,Cc,Aj,Ak] at hl;obtain⟨rfl,rfl⟩:=hl;exact .inr ⟨he,st0,h0,rfl⟩
theorem DT.then_all{b:DS}{Q:DS→Prop}{f:DS→DT}{h:DS→DS}{t:DT}(hb:t.All (ChgS b))(hf:∀ st,ChgS b st→(f st).All Q)(hh:∀ st,ChgS b st→Q (h st)):(t.then f h).All Q:=by
 unfold DT.then;split
 · exact DT.bind_all hf hh hb
 · cases hm:t.norm with
   |none=>exact DT.bind_all hf hh hb
   |fail=>exact DT.bind_all hf hh hb
   | some m=>
     have h1:=hf m (DT.norm_chg hb hm);refine DT.chk_all _ ?_
     cases hc:t.cont with
     |none=>trivial
     | some c=>
       cases c with
       |lit c=>cases c<;>first|trivial|exact h1
       |dyn c=>exact⟨h1,DT.map_all hh (DT.drop_all hb)⟩
theorem sj(v:DV):v.enc.isAgg=v.isAgg:=by cases v<;>rfl
theorem rX{v:DV}(h:v.flatc=true):v.enc.flatc=true∧∀ q es,v.enc≠.sl q es:=by cases v<;>first|(cases h;done)|exact⟨rfl,fun _ _ h=>(by cases h)⟩
theorem rp{s:PS}{hd:Hd}{c:Nat}{v:PV}{os as:List PV}(h:v.flatc=true)(hr:ID s hd (c+1) os as):ID s hd c (v::os) (v::as):=by
 cases v<;>first|exact⟨rfl,h,hr⟩|(cases h;done)
theorem N8{d:DS}{s:PS}(hs:ES d s){hd:Hd}:∀ (vs:List DV) (c:Nat) {g:PX} {os:List DV},Gi d hd c vs=some (g,os)→g.den→ID s hd c (DV.encL os) (DV.encL vs)
 | [],c,g,os,h,_=>by
   simp only[Gi,Aj,Ak] at h;rw[← h.2];trivial
 | v :: vs,c,g,os,h,hg=>by
   have flat:v.flatc=true→(match Gi d hd (c+1) vs with|some (g,os)=>some (g,v::os)|none=>none)=some (g,os)→ID s hd c (DV.encL os) (DV.encL (v::vs)):=by
    intro hf h
    cases h1:Gi d hd (c+1) vs with
    |none=>rw[h1] at h;cases h
    | some r=>
      obtain⟨g1,os1⟩:=r;rw[h1] at h;simp only[Aj,Ak] at h;obtain⟨rfl,rfl⟩:=h;exact rp (rX hf).1 (N8 hs vs (c+1) h1 hg)
   have flat':(if v.flatc=true then (match Gi d hd (c+1) vs with|some (g,os)=>some (g,v::os)|none=>none) else none)=some (g,os)→ID s hd c (DV.encL os) (DV.encL (v::vs)):=by
    intro h;split at h
    · exact flat (by assumption) h
    · cases h
   cases v with
   | sl q r l=>
     simp only[Gi] at h;split at h
     · rename_i hq
       have hq:q= .bor hd [c] true:=by simpa [Em] using hq
       subst hq
       cases h1:Gi d hd (c+1) vs with
       |none=>rw[h1] at h;split at h<;>simp_all
       | some r=>
         obtain⟨g1,os1⟩:=r;rw[h1] at h
         have hk:BU d hd [c]≠.any:=by intro e;rw[e] at h;cases h
         have ek:=Hj hs hd [c] hk;split at h
         · rename_i r' l' g2 os2 e1 e2;simp only[Aj,Ak] at h e2;obtain⟨rfl,rfl⟩:=h;obtain⟨rfl,rfl⟩:=e2;have hg:=(PX.land_den _ _).mp hg;have hl:l.length=l'.length:=hg.1;refine⟨rfl,by rw[ek,e1];rfl,⟨_,rfl,?_⟩,N8 hs vs (c+1) h1 hg.2⟩;rw[Bb,Bb];exact hl
         · rename_i g2 os2 e1 e2;simp only[Aj,Ak] at h e2;obtain⟨rfl,rfl⟩:=h;obtain⟨rfl,rfl⟩:=e2;have hg:=(PX.land_den _ _).mp hg;have hl:l.length=0:=hg.1;refine⟨rfl,by rw[ek,e1];rfl,⟨_,rfl,?_⟩,N8 hs vs (c+1) h1 hg.2⟩;rw[Bb];exact hl
         · cases h
     · cases h
   | nil q=>
     simp only[Gi] at h;split at h
     · rename_i hq
       have hq:q= .bor hd [c] true:=by simpa [Em] using hq
       subst hq
       cases h1:Gi d hd (c+1) vs with
       |none=>rw[h1] at h;split at h<;>simp_all
       | some r=>
         obtain⟨g1,os1⟩:=r;rw[h1] at h
         have hk:BU d hd [c]≠.any:=by intro e;rw[e] at h;cases h
         have ek:=Hj hs hd [c] hk;split at h
         · rename_i r' l' g2 os2 e1 e2;simp only[Aj,Ak] at h e2;obtain⟨rfl,rfl⟩:=h;obtain⟨rfl,rfl⟩:=e2;have hg:=(PX.land_den _ _).mp hg;have hl:l'.length=0:=hg.1;refine⟨rfl,by rw[ek,e1];rfl,⟨_,rfl,?_⟩,N8 hs vs (c+1) h1 hg.2⟩;rw[Bb];exact hl.symm
         · rename_i g2 os2 e1 e2;simp only[Aj,Ak] at h e2;obtain⟨rfl,rfl⟩:=h;obtain⟨rfl,rfl⟩:=e2;exact⟨rfl,by rw[ek,e1];rfl,⟨_,rfl,rfl⟩,N8 hs vs (c+1) h1 hg⟩
         · cases h
     · cases h
   |_=>exact flat' h
def DV.flag:List DV→Prop
 |[]=>True
 |.sl q _ _::r=>q= .own∧DV.flag r
 |_::r=>DV.flag r
theorem XQ:∀ (r:RT) (x:r.D),DV.flag (r.dv .own x)
 |.one t,x=>by cases t<;>first|trivial|exact⟨rfl,trivial⟩
 |.cons t r,x=>by cases t<;>first|exact⟨rfl,XQ r x.2⟩|exact XQ r x.2
theorem X6{hd:Hd}{D':DS}{K:PS→Prop}(hK:∀ s',ES D' s'→K s'):∀ (vs:List DV) (c:Nat) {d:DS} {s:PS},ES d s→HJ hd c vs d=some D'→DV.flag vs→My hd c (DV.encL vs) K s
 | [],c,d,s,hs,h,_=>by
   simp only[HJ,Aj] at h;subst h;exact hK _ hs
 | v :: vs,c,d,s,hs,h,hf=>by
   cases v with
   | sl q r l=>
     simp only[HJ] at h
     have hk:BU d hd [c]≠.any:=by intro e;rw[e] at h;cases h
     have ek:=Hj hs hd [c] hk
     have hn:HJ hd (c+1) vs (Gd d (.sl q r l) hd [c])=some D'∧∃ es0,CH s hd [c]= .sl .own es0:=by
      split at h
      · rename_i e1;exact⟨h,_,by rw[ek,e1];rfl⟩
      · rename_i e1;exact⟨h,_,by rw[ek,e1];rfl⟩
      · cases h
     obtain⟨rfl,hf⟩:=hf;exact⟨hn.2,X6 hK vs (c+1) (LG hs hd [c] (.sl .own r l) hk) hn.1 hf⟩
   |nil q=>cases h
   |_=>exact X6 hK vs (c+1) hs h hf
theorem Xu:∀ (r:RT) (x y:r.D),K3 (RT.enc r x) (RT.enc r y)
 |.one t,x,y=>by cases t<;>first|exact⟨⟨_,rfl⟩,trivial⟩|exact⟨fun _ _ h=>(by cases h),trivial⟩
 |.cons t r,x,y=>by cases t<;>first|exact⟨⟨_,rfl⟩,Xu r x.2 y.2⟩|exact⟨fun _ _ h=>(by cases h),Xu r x.2 y.2⟩
theorem fi:∀ {vs:List DV} {c:Nat} {hd:Hd} {b:Nat},UN c vs=some (hd,b)→hd.sb=true
 |[],_,_,_,h=>by cases h
 | v :: vs,c,hd,b,h=>by
   unfold UN at h
   split at h
   · cases h
   · split at h
     · rename_i hc
       simp only[Ah] at hc
       simp only[Aj,Ak] at h
       rw[← h.1];exact hc.2
     · cases h
   · split at h
     · rename_i hc
       simp only[Ah] at hc
       simp only[Aj,Ak] at h
       rw[← h.1];exact hc.2
     · cases h
   · rename_i h1;cases h1;exact fi h
theorem uk {d d1:DS}{s:PS}(hs:ES d s){M:DMk}{x y:Opnd}{g:PX}{v:DV}(h:Mr M x y d=some (g,v,d1))(hg:g.den){dst:Option Nat}{k:PS→Prop}(hk:∀ s',ES d1 s'→k (s'.put dst v.enc)):Y5 M.P x y dst k s:=by
 unfold Mr at h;split at h
 · rename_i m hm;split at h
   · rename_i hc;simp only[Ah] at hc;split at h
     · rename_i hd b hh;split at h
       · rename_i g1 os ho;split at h
         · rename_i z hz;split at h
           · rename_i st' hS;simp only[Aj,Ak] at h;obtain⟨rfl,rfl,rfl⟩:=h;have hg:=(PX.land_den _ _).mp hg
             have hy:y.pev s.sl= .fl (.int .i64 m):=by
              have:=y.dev_ev hs;rw[hm] at this;exact this.of (by simp)
             have hx:x.pev s.sl=(x.dev d.sl).enc:=(x.dev_ev hs).of (by intro e;rw[e] at hc;cases hc.2);refine⟨m,hd,b,M.r.enc z,hy,?_,fi hh,?_,?_,⟨z,rfl,hg.2,Xu _ _ _,?_⟩⟩
             · rw[hx,sj];exact eq_of_beq hc.1
             · rw[hx];exact dC _ hc.2
             · rw[hx,Jn,← Oq hz];exact N8 hs _ b ho hg.1
             · rw[← UK];have hP:M.P.vd=M.vd:=rfl;refine X6 (fun s' hs'=>?_) _ b hs hS (XQ _ _);have h:=hk s' hs';rw[hP]
               cases hvd:M.vd with
               |true=>rw[hvd] at h;exact h
               |false=>rw[hvd] at h;exact h
           · cases h
         · cases h
       · cases h
     · cases h
   · cases h
 · cases h
theorem TJ{hd:Hd}{D':DS}:∀ (vs:List DV) (c:Nat) {d:DS},HJ hd c vs d=some D'→ChgS d D'
 | [],c,d,h=>by
   simp only[HJ,Aj] at h
   subst h;exact ChgS.refl _
 | v :: vs,c,d,h=>by
   cases v with
   | sl q r l=>
     simp only[HJ] at h
     split at h
     · exact(ChgS.setK _ _ _ _).trans (TJ vs _ h)
     · exact(ChgS.setK _ _ _ _).trans (TJ vs _ h)
     · cases h
   |nil q=>cases h
   |_=>exact TJ vs _ h
theorem rK{d d1:DS}{M:DMk}{x y:Opnd}{g:PX}{v:DV}(h:Mr M x y d=some (g,v,d1)):ChgS d d1:=by
 unfold Mr at h
 repeat' split at h
 all_goals first|(cases h;done)|skip
 all_goals
  simp only[Aj,Ak] at h
  obtain⟨_,_,rfl⟩:=h
  exact TJ _ _ (by assumption)
def Il(p:BI)(D:FE):Prop:=∀ (args:List DV) (g:PX) (v:DV) (Q:PV→List (List PV)→Prop),D args=some (g,v)→g.den→(∀ H,Q v.enc H)→p (DV.encL args) [] Q
def FZ(p:BI)(D:De):Prop:=∀ (args:List DV) (b:List (List DV)) (g:PX) (v:DV) (H:List (List DV)) (Q:PV→List (List PV)→Prop),D args b=some (g,v,H)→g.den→Q v.enc (Gc (Iy b H))→p (DV.encL args) (Gc b) Q
inductive ObD where
 |nv (p:BI) (D:FE)
 |wp (p:BI) (D:De)
def ObD.sound:ObD→Prop
 |.nv p D=>Il p D
 |.wp p D=>FZ p D
def DOp.obs:DOp→List ObD
 |.a _ _ _=>[]
 |.aw _ _ _ _=>[]
 |.call _ _ p D _=>[.nv p D]
 |.mark _ _ _ _=>[]
 |.callp _ _ p D _=>[.wp p D]
 |.callv _ _ p D _ _ _=>[.wp p D]
def TW:List DOper→List ObD
 |[]=>[]
 |o::r=>o.op.obs++TW r
def DCode.obs:DCode→List ObD
 |.skip=>[]
 |.region ops=>TW ops
 |.regionU ops=>TW ops
 |.seq _ a b=>a.obs++b.obs
 |.cond _ a b=>a.obs++b.obs
 |.block _ a=>a.obs
 |.loop _ _ a=>a.obs
 |.exit _=>[]
 |.ret=>[]
def AllD:List ObD→Prop
 |[]=>True
 |o::r=>o.sound∧AllD r
theorem AllD.app:∀ {a b:List ObD},AllD (a++b)→AllD a∧AllD b
 |[],_,h=>⟨trivial,h⟩
 |_::_,_,⟨h1,h2⟩=>⟨⟨h1,(AllD.app h2).1⟩,(AllD.app h2).2⟩
theorem Uf{d:DS}{s:PS}(hs:ES d s):∀ (args:List Opnd),Ho (EF d.sl args)=true→args.map (·.pev s.sl)=DV.encL (EF d.sl args)
 |[],_=>rfl
 | x::r,h=>by
   simp only[EF,Ho,Ah] at h
   simp only[Cd,EF,DV.encL,Uf hs r h.2]
   rw[(x.dev_ev hs).of (by intro e;rw[e] at h;cases h.1)]
theorem Nx:∀ (l:List PV),l.any PV.hasPtr=PV.hasPtrL l
 |[]=>rfl
 |v::r=>by simp only[List.any_cons,PV.hasPtrL,Nx r]
theorem Uj:∀ (l:List PV),l.map PV.fz=PV.fzL l
 |[]=>rfl
 |v::r=>by simp only[Cd,PV.fzL,Uj r]
theorem Xc:∀ (l:List PV),(l.all fun v=>!v.hold)=!PV.holdL l
 |[]=>rfl
 |v::r=>by simp only[Fx,PV.holdL,Xc r,Bool.not_or]
mutual
theorem fG:∀ (v:DV),v.deep=true→v.enc.deep=true
 |.undef,_|.bool _,_|.int _ _,_|.str _,_|.ifc _,_|.ptr _ _,_=>rfl
 |.nil q,h=>by cases q<;>first|rfl|cases h
 |.sl q r l,h=>by cases q<;>first|(cases h;done)|exact Xa r l
 |.agg cs,h=>WO cs h
 |.tup cs,h=>WO cs h
theorem WO:∀ (l:List DV),DV.deepL l=true→PV.deepL (DV.encL l)=true
 |[],_=>rfl
 | v::r,h=>by
   simp only[DV.deepL,Ah] at h
   simp only[DV.encL,PV.deepL,fG v h.1,WO r h.2,CL]
end
theorem XX(v:DV):v.enc.retc=v.retc:=by
 cases v<;>first|rfl|skip
 case nil q=>cases q<;>rfl
 case sl q r l=>cases q<;>rfl
theorem gX:∀ (l:List DV),EE (DV.encL l)=Iw l
 |[]=>rfl
 |v::r=>by simp only[DV.encL,EE,Iw,XX v,gX r]
theorem tw(v:DV):v.enc.retok=v.retok:=by
 cases v<;>first|rfl|skip
 case nil q=>exact XX (.nil q)
 case sl q r l=>exact XX (.sl q r l)
 case agg cs=>exact gX cs
theorem sT{d:DS}{s:PS}(x:Opnd)(h:ES d s)(hk:∀ n,x= .t n→Bj d.sl n≠.any):ES (L6 x d).2 (fzOut x s).2:=by
 cases x with
 |c v=>exact h
 | t n=>
   simp only[L6,UZ,fzOut,Zl];have hg:=(h.sl.get n).of (hk n rfl);rw[hg,Jx,tw];by_cases ho:(Bj d.sl n).own=true
   · simp only[ho,AN];by_cases hr:(Bj d.sl n).retok=true
     · rw[Ab hr,Ab hr,← ib];exact⟨(h.sl.put n (.inr rfl)).clr _,h.bx,h.hp⟩
     · rw[Ad hr,Ad hr];exact h
   · simp only[ho];exact h
theorem bR(v:DV):∀ (l:List DC) (k n:Nat),Bj l n= .any→k≠n→Bj (C4 l k v) n= .any
 |[],_,_,_,_=>rfl
 |_::_,0,0,_,hn=>absurd rfl hn
 |_::_,0,_+1,h,_=>h
 |_::_,_+1,0,h,_=>h
 |_::r,k+1,n+1,h,hn=>bR v r k n h (by simpa using hn)
theorem bG(hd:Hd):∀ (l:List DC) (n:Nat),Bj l n= .any→Bj (C6 hd l) n= .any
 |[],_,_=>rfl
 | c::_,0,h=>by
   have h:c.v= .any:=h
   simp only[C6,h,DV.bor,AL,AX,Bj]
 |_::r,n+1,h=>bG hd r n h
theorem oX(x:Opnd)(d:DS)(n:Nat)(h:Bj d.sl n= .any):Bj (L6 x d).2.sl n= .any:=by
 cases x with
 |c v=>exact h
 | t k=>
   simp only[L6,UZ];split
   · rename_i ho;split
     · refine bG _ _ _ (bR _ _ _ _ h ?_);rintro rfl;rw[h] at ho;cases ho
     · exact h
   · exact h
theorem bM:∀ (args:List Opnd) (d:DS) (n:Nat),Bj d.sl n= .any→Bj (Ed args d).sl n= .any
 |[],_,_,h=>h
 |x::r,d,n,h=>bM r _ n (oX x d n h)
theorem TU:∀ (args:List Opnd) {d:DS} {s:PS},ES d s→(∀ x∈args,x.dev (Ed args d).sl≠.any)→ES (Ed args d) (fzArgs args s)
 |[],_,_,h,_=>h
 | x::r,d,s,h,hk=>by
   refine TU r (sT x h fun n hx hn=>?_) fun y hy=>hk y (List.mem_cons_of_mem _ hy)
   subst hx
   exact hk (.t n) (L9 ..) (bM (.t n::r) d n hn)
theorem S3{sl:List DC}:∀ {args:List Opnd},Ho (EF sl args)=true→∀ x∈args,x.dev sl≠.any
 |[],_,_,hx=>by cases hx
 | a::r,h,x,hx=>by
   simp only[EF,Ho,Ah] at h
   rcases BG.mp hx with rfl|hx
   · intro e;rw[e] at h;cases h.1
   · exact S3 h.2 x hx
theorem DS.fzArgs_chg:∀ (args:List Opnd) (d:DS),ChgS d (Ed args d)
 |[],d=>ChgS.refl d
 |x::r,d=>(ChgS.fzOut x d).trans (DS.fzArgs_chg r _)
section
variable {E:AExit} {D':DS}
def Q6(E:AExit)(D':DS)(K:DS→DT)(k:PS→Prop):Prop:=∀ d s,ES d s→(K d).ok.den→(K d).lf=some (E,D')→k s
theorem uY{D:FE}{p:BI}(hp:Il p D){args:List Opnd}{d d1:DS}{s:PS}{g:PX}{v:DV}{dst:Option Nat}{k:PS→Prop}(hs:ES d s)(h:Mv D args d=some (g,v,d1))(hg:g.den)(hk:∀ s',ES (d1.put dst v) s'→k s'):YD p args dst k s:=by
 unfold Mv at h;simp only at h;split at h
 · rename_i hc;simp only[Ah,Cz] at hc;obtain⟨h1,h2⟩:=hc;split at h
   · rename_i g1 v1 hD;split at h
     · rename_i hr;simp only[Ah,Cz,Cg] at hr;obtain⟨⟨hok,hnp⟩,hdp⟩:=hr;simp only[Aj,Ak] at h;obtain⟨rfl,rfl,rfl⟩:=h;have e:=Uf hs args h1;refine⟨by rw[e,Nx,Kk,h2],by rw[e];exact S5 _ h1,?_⟩;rw[e,Nx,Kk,h2];simp only[AL,AX];rw[Uj,← N3]
       refine hp _ _ _ _ hD hg fun H=>⟨?_,?_⟩
       · rw[S4,hnp,Xc,PK];rcases hdp with h|h
         · simp[fG _ h]
         · simp[h]
       · rw[S4,hnp];simp only[AL,AX];exact hk _ (hs.put dst v1)
     · cases h
   · cases h
 · cases h
theorem fJ{D:FE}{args:List Opnd}{d d1:DS}{g:PX}{v:DV}(h:Mv D args d=some (g,v,d1)):d1=d∧Ho (EF d.sl args)=true:=by
 unfold Mv at h;simp only at h;split at h
 · rename_i hc;simp only[Ah] at hc;split at h
   · split at h
     · simp only[Aj,Ak] at h;exact⟨h.2.2.symm,hc.1⟩
     · cases h
   · cases h
 · cases h
theorem Zk(q:Ql):∀ es,(PV.sl q es).isH=q.isH'∧∀ j o,(PV.ep q es j o).isH=q.isH':=by
 intro es
 cases q with
 |bor hd p t=>cases hd<;>exact⟨rfl,fun _ _=>rfl⟩
 |pre hd p=>cases hd<;>exact⟨rfl,fun _ _=>rfl⟩
 |_=>exact⟨rfl,fun _ _=>rfl⟩
mutual
theorem gK:∀ (v:DV),v.enc.isH=v.isH
 |.nil q=>(Zk q []).1
 |.sl q r l=>(Zk q _).1
 |.ep q r l j o=>(Zk q _).2 j o
 |.agg cs=>Xo cs
 |.tup vs=>Xo vs
 |.any|.undef|.bool _|.int _ _|.str _|.ifc _|.box _ _|.ptr _ _=>rfl
theorem Xo:∀ (l:List DV),PV.isHL (DV.encL l)=DV.isHL l
 |[]=>rfl
 |v::r=>by simp only[DV.encL,PV.isHL,DV.isHL,gK v,Xo r]
end
theorem EL.clrH:∀ {a:List DC} {b:List PV},EL a b→EL (QF a) (Go.Ag.clrH b)
 |[],[],_=>trivial
 | c :: a,p::b,h=>by
   refine⟨?_,EL.clrH h.2⟩
   by_cases hc:c.v.isH=true
   · rw[Ab hc];exact .inl rfl
   · rw[Ad hc]
     rcases h.1 with h1|h1
     · exact .inl h1
     · rw[h1,gK,Ad hc];exact .inr rfl
theorem EL.all:∀ {a:List DC} {b:List PV},EL a b→DV.okL (Bv a)=true→b=DV.encL (Bv a)
 |[],[],_,_=>rfl
 | c::a,p::b,h,hk=>by
   simp only[Bv,DV.okL,Ah] at hk
   rcases h.1 with h1|h1
   · rw[h1] at hk;cases hk.1
   · simp only[Bv,DV.encL];rw[h1,EL.all h.2 hk.2]
theorem EB.all:∀ {a:List (List DC)} {b:List (List PV)},EB a b→U6 (GV a)=true→b=Gc (GV a)
 |[],[],_,_=>rfl
 | c::a,p::b,h,hk=>by
   simp only[GV,U6,Ah] at hk
   have hl:0<c.length:=by rw[← PR];exact CC hk.1.1
   simp only[GV,Gc];rw[(h.1.to hl).all hk.1.2,EB.all h.2 hk.2]
theorem EL.mix:∀ (a:List DC) (vs:List DV),EL (MC a vs) (DV.encL (Fc (Bv a) vs))
 |[],vs=>by simp only[MC,Bv,Fc];exact EL.news vs
 | c :: a,[]=>by
   have:∀ (a:List DC),EL a (DV.encL (Bv a)):=by
    intro a
    induction a with
    |nil=>exact trivial
    |cons x r ih=>exact⟨.inr rfl,ih⟩
   exact this (c::a)
 | c::a,v::vs=>by
   simp only[MC,Bv,Fc];refine⟨?_,EL.mix a vs⟩;by_cases h:v.isAny=true
   · rw[Ab h,Ab h];exact .inr rfl
   · rw[Ad h,Ad h];exact .inr rfl
theorem EB.newsB:∀ (vs:List (List DV)),EB (Go.Ag.newsB vs) (Gc vs)
 |[]=>trivial
 |v::r=>⟨.inr (EL.news v),EB.newsB r⟩
theorem EB.mix:∀ (a:List (List DC)) (vs:List (List DV)),EB (Mz a vs) (Gc (Iy (GV a) vs))
 |[],vs=>by simp only[Mz,GV,Iy];exact EB.newsB vs
 | c :: a,[]=>by
   have h0:∀ (a:List DC),MC a []=a:=by intro a;cases a<;>rfl
   have h1:∀ (a:List DC),Fc (Bv a) []=Bv a:=by intro a;cases a<;>rfl
   have:∀ (a:List (List DC)),EB a (Gc (GV a)):=by
    intro a
    induction a with
    |nil=>exact trivial
    | cons x r ih=>
      refine⟨.inr ?_,ih⟩;have:=EL.mix x [];rw[h0,h1] at this;exact this
   exact this (c::a)
 | c::a,v::vs=>by
   simp only[Mz,GV,Iy];exact⟨.inr (EL.mix c v),EB.mix a vs⟩
theorem WG:∀ (a:List (List DV)),(Gc a).length=a.length
 |[]=>rfl
 |_::r=>by simp only[Gc,AG,WG r]
theorem dL:∀ (a vs:List (List DV)),a.length≤(Iy a vs).length
 |[],_=>HB _
 |_::_,[]=>AO _
 |_::a,_::vs=>by simp only[Iy,AG];exact Nat.succ_le_succ (dL a vs)
theorem eH{D:De}{p:BI}(hp:FZ p D){args:List Opnd}{d d1:DS}{s:PS}{g:PX}{v:DV}{dst:Option Nat}{k:PS→Prop}(hs:ES d s)(h:JJ D args d=some (g,v,d1))(hg:g.den)(hk:∀ s',ES (d1.put dst v) s'→k s'):QJ p args dst k s:=by
 unfold JJ at h;simp only at h;split at h
 · rename_i hc;simp only[Ah,Cz] at hc;obtain⟨⟨h1,h2⟩,h3⟩:=hc;have e:=Uf hs args h1;have eh:=hs.hp.all h3
   have hun:((DV.encL (EF d.sl args)).all fun v=>!v.hold)=true:=by rw[Xc,PK,h2];rfl
   split at h
   · rename_i hpt;split at h
     · rename_i g1 v1 H hD;split at h
       · rename_i hr;simp only[Ah,Cz] at hr;simp only[Aj,Ak] at h;obtain⟨rfl,rfl,rfl⟩:=h;refine⟨by rw[e];exact S5 _ h1,?_⟩;rw[e,Nx,Kk,hpt];simp only[AN];refine⟨hun,?_⟩;rw[Uj,← N3,eh];have hE:ES { d with sl:=QF d.sl,hp:=Mz d.hp H } { s with sl:=Go.Ag.clrH s.sl,hp:=Gc (Iy (GV d.hp) H) }:=⟨hs.sl.clrH,hs.bx,EB.mix d.hp H⟩;refine hp _ _ _ _ _ _ hD hg ⟨?_,by rw[S4];exact hr.2,hk _ (hE.put dst v1)⟩;rw[WG,WG];exact dL _ _
       · cases h
     · cases h
   · rename_i hpt;split at h
     · rename_i hl;have hl:d.hp=[]:=E4 (by simpa using hl);split at h
       · rename_i g1 v1 H hD;split at h
         · rename_i hr;simp only[Aj,Ak] at h;obtain⟨rfl,rfl,rfl⟩:=h
           have hv:v1= .ptr 0 0:=by
            unfold DV.isP0 at hr;split at hr
            · rfl
            · cases hr
           subst hv
           have hsl:s.hp=[]:=by rw[eh,hl];rfl
           refine⟨by rw[e];exact S5 _ h1,?_⟩;rw[e,Nx,Kk];rw[Ad (by simpa using hpt)];rw[Uj,← N3]
           have:=hp _ [] _ _ _ (fun r H=>(((!r.hasPtr&&r.deep)||(DV.encL (EF d.sl args)).all fun v=>!v.hold)=true)∧k (PS.put { s with hp:=if r.hasPtr then s.hp++H else s.hp } dst (if r.hasPtr then r.shift s.hp.length else r))) hD hg ⟨by rw[hun];simp,by
            have hE:ES { d with hp:=newsB H } { s with hp:=Gc H }:=⟨hs.sl,hs.bx,EB.newsB H⟩;have:=hk _ (hE.put dst (.ptr 0 0))
            simpa [hsl,DV.enc,PV.hasPtr,PV.shift,Iy] using this⟩
           exact this
         · cases h
       · cases h
     · cases h
 · cases h
theorem eE{i c:Nat}{D:De}{args:List Opnd}{d d1:DS}{g:PX}{v:DV}(h:Qq i c D args d=some (g,v,d1)) :
 DV.hasPtrL (EF d.sl args)=true∧(BU d (.b i) [c]).ownS=true∧JJ D args d=some (g,v,d1):=by
 unfold Qq at h
 by_cases hc:(DV.hasPtrL (EF d.sl args)&&(BU d (.b i) [c]).ownS)=true
 · rw[Ab hc] at h
   rw[Ah] at hc;exact⟨hc.1,hc.2,h⟩
 · rw[Ad hc] at h;cases h
theorem Tu{D:De}{args:List Opnd}{d d1:DS}{g:PX}{v:DV}(h:JJ D args d=some (g,v,d1)):ChgS d d1∧Ho (EF d.sl args)=true:=by
 have cH:∀ (l:List DC),Chg l (QF l):=by
  intro l
  induction l with
  |nil=>trivial
  | cons c r ih=>
    refine⟨?_,ih⟩;by_cases hc:c.v.isH=true
    · rw[Ab hc];exact .inl rfl
    · rw[Ad hc];exact .inr rfl
 have cN:∀ (x:List DC) (vs:List DV),Chg x (news vs):=by
  intro x vs
  induction vs generalizing x with
  |nil=>cases x<;>trivial
  | cons v r ih=>cases x with
    |nil=>exact⟨rfl,ih []⟩
    |cons c x=>exact⟨.inl rfl,ih x⟩
 have cM:∀ (a:List DC) (vs:List DV),Chg a (MC a vs):=by
  intro a
  induction a with
  |nil=>intro vs;exact cN [] vs
  | cons c r ih=>
    intro vs
    cases vs with
    |nil=>exact Chg.refl _
    | cons v vs=>
      refine⟨?_,ih vs⟩;by_cases h:v.isAny=true
      · rw[Ab h];exact .inr rfl
      · rw[Ad h];exact .inl rfl
 have cNB:∀ (x:List (List DC)) (vs:List (List DV)),ChgB x (newsB vs):=by
  intro x vs
  induction vs generalizing x with
  |nil=>cases x<;>trivial
  | cons v r ih=>cases x with
    |nil=>exact⟨cN _ _,ih []⟩
    |cons c x=>exact⟨cN _ _,ih x⟩
 have cMB:∀ (a:List (List DC)) (vs:List (List DV)),ChgB a (Mz a vs):=by
  intro a
  induction a with
  |nil=>intro vs;exact cNB [] vs
  | cons c r ih=>
    intro vs
    cases vs with
    |nil=>exact ChgB.refl _
    |cons v vs=>exact⟨cM c v,ih vs⟩
 unfold JJ at h;simp only at h;split at h
 · rename_i hc;simp only[Ah] at hc;refine⟨?_,hc.1.1⟩;split at h
   · split at h
     · split at h
       · simp only[Aj,Ak] at h;obtain⟨_,_,rfl⟩:=h;exact⟨cH _,ChgB.refl _,cMB _ _⟩
       · cases h
     · cases h
   · split at h
     · split at h
       · split at h
         · simp only[Aj,Ak] at h;obtain⟨_,_,rfl⟩:=h;exact⟨Chg.refl _,ChgB.refl _,cNB _ _⟩
         · cases h
       · cases h
     · cases h
 · cases h
theorem gh{d:DS}{s:PS}(x:Opnd)(hs:ES d s)(hk:x.dev d.sl≠.any)(ho:(x.dev d.sl).own=false):mvOut x s=((x.dev d.sl).enc,s):=by
 cases x with
 |c v=>simp only[mvOut,Opnd.dev];rw[TI v hk]
 | t n=>
   have:=(hs.sl.get n).of hk;simp only[mvOut,EG,this,Jx,Opnd.dev] at ho ⊢;rw[Ad (by simp[ho])]
theorem Ur{o:DOp}(ho:AllD o.obs){dst:Option Nat}{K:DS→DT}{k:PS→Prop}(hK:Q6 E D' K k):Q6 E D' (CG o dst K) (fun s=>CS o.er dst k s):=by
 intro d s hs hok hl
 cases o with
 | call m f p D args=>
   simp only[CG] at hok hl;simp only[DOp.er,CS]
   cases hc:Mv D args (if m=true then Ed args d else d) with
   |none=>rw[hc] at hok;exact hok.elim
   | some r=>
     obtain⟨g,v,d1⟩:=r;rw[hc] at hok hl;simp only[DT.chk_ok,DT.chk_lf] at hok hl;obtain⟨e1,e2⟩:=fJ hc
     have hs':ES (if m=true then Ed args d else d) (if m=true then fzArgs args s else s):=by
      cases m with
      |false=>exact hs
      |true=>exact TU args hs (S3 e2)
     exact uY ho.1 hs' hc hok.1 fun s' hs'=>hK _ _ hs' hok.2 hl
 | aw ws m o ty=>
   simp only[CG] at hok hl;simp only[DOp.er,CS]
   cases hst:Mk ws m o ty d with
   |none=>rw[hst] at hok;exact hok.elim
   | some r=>
     obtain⟨g,v,d1⟩:=r;rw[hst] at hok hl;simp only[DT.chk_ok,DT.chk_lf] at hok hl;obtain⟨s',v0,e1,e2,e3⟩:=oG hs hst hok.1;simp only[e1,e2];exact hK _ _ (e3.put dst v) hok.2 hl
 | mark f M x y=>
   simp only[CG] at hok hl;simp only[DOp.er,CS]
   cases hst:Mr M x y d with
   |none=>rw[hst] at hok;exact hok.elim
   | some r=>
     obtain⟨g,v,d1⟩:=r;rw[hst] at hok hl;simp only[DT.chk_ok,DT.chk_lf] at hok hl
     exact uk hs hst hok.1 fun s' hs'=>hK _ _ (hs'.put dst v) hok.2 hl
 | callp m f p D args=>
   simp only[CG] at hok hl;simp only[DOp.er,CS]
   cases hc:JJ D args (if m=true then Ed args d else d) with
   |none=>rw[hc] at hok;exact hok.elim
   | some r=>
     obtain⟨g,v,d1⟩:=r;rw[hc] at hok hl;simp only[DT.chk_ok,DT.chk_lf] at hok hl;obtain⟨e1,e2⟩:=Tu hc
     have hs':ES (if m=true then Ed args d else d) (if m=true then fzArgs args s else s):=by
      cases m with
      |false=>exact hs
      |true=>exact TU args hs (S3 e2)
     exact eH ho.1 hs' hc hok.1 fun s' hs'=>hK _ _ hs' hok.2 hl
 | callv m f p D args i c=>
   simp only[CG] at hok hl;simp only[DOp.er,CS]
   cases hc:Qq i c D args (if m=true then Ed args d else d) with
   |none=>rw[hc] at hok;exact hok.elim
   | some r=>
     obtain⟨g,v,d1⟩:=r;rw[hc] at hok hl;simp only[DT.chk_ok,DT.chk_lf] at hok hl;obtain⟨hcv,e0,hc⟩:=eE hc;obtain⟨e1,e2⟩:=Tu hc
     have hs':ES (if m=true then Ed args d else d) (if m=true then fzArgs args s else s):=by
      cases m with
      |false=>exact hs
      |true=>exact TU args hs (S3 e2)
     refine⟨⟨?_,?_⟩,eH ho.1 hs' hc hok.1 fun s' hs'=>hK _ _ hs' hok.2 hl⟩
     · rw[Uf hs' args e2,Nx,Kk,hcv]
     · have:=Hj hs' (.b i) [c] (fun e=>by rw[e] at e0;cases e0);rw[this];unfold DV.ownS at e0;split at e0
       · rename_i r l h;rw[h];exact⟨_,rfl⟩
       · rename_i h;rw[h];exact⟨_,rfl⟩
       · cases e0
 | a m o ty=>
   have gen:(match Bs m o ty d with|some (g,v,st)=>DT.chk' g (K (st.put dst v))|none=>DT.bad).ok.den→(match Bs m o ty d with|some (g,v,st)=>DT.chk' g (K (st.put dst v))|none=>DT.bad).lf=some (E,D')→CS (DOp.a m o ty).er dst k s:=by
    intro hok hl
    cases hst:Bs m o ty d with
    |none=>rw[hst] at hok;exact hok.elim
    | some r=>
      obtain⟨g,v,d1⟩:=r;rw[hst] at hok hl;simp only[DT.chk_ok,DT.chk_lf] at hok hl;obtain⟨s',e1,e2⟩:=ck hs hst hok.1;simp only[DOp.er,CS,e1];exact hK _ _ (e2.put dst v) hok.2 hl
   cases o<;>first|exact gen hok hl|skip
   case pick c a b=>
    clear gen;simp only[CG] at hok hl;have hc:=c.dev_ev hs
    have one:∀ (x:Opnd),(match A7 x d with|(v,st)=>if v.ok=true then K (st.put dst v) else DT.bad).ok.den→(match A7 x d with|(v,st)=>if v.ok=true then K (st.put dst v) else DT.bad).lf=some (E,D')→k ((mvOut x s).2.put dst (mvOut x s).1):=by
     intro x hok hl;by_cases hv:(A7 x d).1.ok=true
     · simp only[Ab hv] at hok hl;obtain⟨m1,m2⟩:=Ep x hs hv;rw[m1];exact hK _ _ (m2.put dst _) hok hl
     · simp only[Ad hv] at hok;exact hok.elim
    cases hcv:c.dev d.sl with
    | bool t=>
      rw[hcv] at hc;have hp:=hc.of (by simp);simp only[DOp.er,CS,Bm,hp,DV.enc]
      cases t with
      | lit t=>
        rw[hcv] at hok hl
        cases t with
        |true=>exact one a hok hl
        |false=>exact one b hok hl
      | dyn t=>
        rw[hcv] at hok hl;simp only at hok hl;split at hok
        · rename_i h;rw[Ab h] at hl;have hok:=(PX.if_den _ _ _).mp hok
          cases t with
          |true=>exact one a (hok.1 rfl) hl
          |false=>exact one b (hok.2 rfl) hl
        · rename_i h;rw[Ad h] at hl;simp only[KF,CD,Fw] at h;obtain⟨⟨h1,h2⟩,h3⟩:=h
          have ka:a.dev d.sl≠.any:=by
           intro e;rw[e] at h3;cases hb:b.dev d.sl<;>rw[hb] at h3<;>cases h3
          have kb:b.dev d.sl≠.any:=by
           intro e;rw[e] at h3;cases hb:a.dev d.sl<;>rw[hb] at h3<;>cases h3
          have hm:CR t (a.dev d.sl) (b.dev d.sl)≠.any:=by intro e;rw[e] at h3;cases h3
          have he:=(UA t (a.dev d.sl) (b.dev d.sl)).resolve_left hm;have:=hK _ _ (hs.put dst (CR t (a.dev d.sl) (b.dev d.sl))) hok hl;rw[he] at this;simp only[BX.b]
          cases t with
          |true=>simp only[AN,gh a hs ka h1];exact this
          |false=>simp only[AL,AX,gh b hs kb h2];exact this
    |_=>rw[hcv] at hok;exact hok.elim
theorem gP{d:DS}{s:PS}{g:Nat}{b:Bool}(hs:ES d s)(h:Aa s.sl g= .fl (.bool b)):ES (MB d g b) s:=by
 refine⟨?_,hs.bx,hs.hp⟩
 have:∀ {a:List DC} {l:List PV} (n:Nat),EL a l→Aa l n= .fl (.bool b)→EL (C4 a n (.bool (.lit b))) l:=by
  intro a
  induction a with
  |nil=>intro l n h _;exact h
  | cons c a ih=>
    intro l n h hg
    cases l with
    |nil=>exact h.elim
    | cons p l=>
      cases n with
      |zero=>exact⟨.inr hg,h.2⟩
      |succ n=>exact⟨h.1,ih n h.2 hg⟩
 exact this g hs.sl h
theorem tZ{o:DOper}(ho:AllD o.op.obs){K:DS→DT}{k:PS→Prop}(hK:Q6 E D' K k):Q6 E D' (Ov o K) (fun s=>GP o.er k s):=by
 intro d s hs hok hl
 have skip:∀ {d s},ES d s→(K (d.put o.dst (.tup []))).ok.den→(K (d.put o.dst (.tup []))).lf=some (E,D')→k (s.put o.dst (.tup [])):=fun hs hok hl=>hK _ _ (hs.put o.dst (.tup [])) hok hl
 unfold Ov at hok hl;unfold GP;simp only[DOper.er]
 cases hg:o.guard with
 |none=>rw[hg] at hok hl;exact Ur ho hK d s hs hok hl
 | some g=>
   obtain⟨g,want⟩:=g;rw[hg] at hok hl;simp only at hok hl ⊢;have hv:=hs.sl.get g
   cases hgv:Bj d.sl g with
   | bool t=>
     rw[hgv] at hok hl hv;have hp:=hv.of (by simp);simp only[DV.enc] at hp;rw[hp];simp only
     cases t with
     | lit t=>
       simp only at hok hl;by_cases hw:t=want
       · rw[Ab (by simpa using hw)] at hok hl;rw[Ab (show (BX.lit t).b=want from hw)];exact Ur ho hK d s hs hok hl
       · rw[Ad (by simpa using hw)] at hok hl;rw[Ad (show ¬ (BX.lit t).b=want from hw)];exact skip hs hok hl
     | dyn t=>
       simp only[BX.b] at hp ⊢;have hok:=(PX.if_den _ _ _).mp hok;have hs2:=gP hs hp
       cases t with
       | true=>
         have hok:=hok.1 rfl;simp only[DT.lf] at hl
         cases want with
         |true=>exact Ur ho hK _ s hs2 hok hl
         |false=>exact skip hs2 hok hl
       | false=>
         have hok:=hok.2 rfl;simp only[DT.lf] at hl
         cases want with
         |true=>exact skip hs2 hok hl
         |false=>exact Ur ho hK _ s hs2 hok hl
   | tup vs=>
     cases vs with
     | nil=>
       rw[hgv] at hok hl hv;have hp:=hv.of (by simp);simp only[DV.enc,DV.encL] at hp;rw[hp];exact skip hs hok hl
     |cons v r=>rw[hgv] at hok;exact hok.elim
   |_=>rw[hgv] at hok;exact hok.elim
theorem Yc:∀ (ops:List DOper),AllD (TW ops)→∀ {k:PS→Prop},E= .normal→(∀ s,ES D' s→k s)→Q6 E D' (IB ops) (fun s=>IC (ops.map fun o=>o.er) k s)
 | [],_,k,hE,hk=>by
   intro d s hs hok hl
   simp only[IB,DT.lf,Aj,Ak] at hl
   obtain⟨_,rfl⟩:=hl
   exact hk s hs
 | o::r,ho,k,hE,hk=>by
   obtain⟨h1,h2⟩:=ho.app
   exact tZ h1 (Yc r h2 hE hk)
end
theorem tK{o:DOp}{dst:Option Nat}{K:DS→DT}{b:DS}(hK:∀ d,ChgS b d→(K d).All (ChgS b)):∀ d,ChgS b d→(CG o dst K d).All (ChgS b):=by
 intro d hd
 cases o with
 | call m f p D args=>
   simp only[CG]
   cases hc:Mv D args (if m=true then Ed args d else d) with
   |none=>trivial
   | some r=>
     obtain⟨g,v,d1⟩:=r;obtain⟨rfl,_⟩:=fJ hc;refine DT.chk_all _ (hK _ ((hd.trans ?_).trans (ChgS.put _ _ _)))
     cases m with
     |true=>exact DS.fzArgs_chg args d
     |false=>exact ChgS.refl d
 | aw ws m o ty=>
   simp only[CG]
   cases hst:Mk ws m o ty d with
   |none=>trivial
   | some r=>
     obtain⟨g,v,d1⟩:=r;exact DT.chk_all _ (hK _ ((hd.trans (ql hst)).trans (ChgS.put _ _ _)))
 | mark f M x y=>
   simp only[CG]
   cases hst:Mr M x y d with
   |none=>trivial
   | some r=>
     obtain⟨g,v,d1⟩:=r;exact DT.chk_all _ (hK _ ((hd.trans (rK hst)).trans (ChgS.put _ _ _)))
 | callp m f p D args=>
   simp only[CG]
   cases hc:JJ D args (if m=true then Ed args d else d) with
   |none=>trivial
   | some r=>
     obtain⟨g,v,d1⟩:=r;obtain⟨h1,_⟩:=Tu hc;refine DT.chk_all _ (hK _ (((hd.trans ?_).trans h1).trans (ChgS.put _ _ _)))
     cases m with
     |true=>exact DS.fzArgs_chg args d
     |false=>exact ChgS.refl d
 | callv m f p D args i c=>
   simp only[CG]
   cases hc:Qq i c D args (if m=true then Ed args d else d) with
   |none=>trivial
   | some r=>
     obtain⟨g,v,d1⟩:=r;obtain⟨_,_,hc⟩:=eE hc;obtain⟨h1,_⟩:=Tu hc;refine DT.chk_all _ (hK _ (((hd.trans ?_).trans h1).trans (ChgS.put _ _ _)))
     cases m with
     |true=>exact DS.fzArgs_chg args d
     |false=>exact ChgS.refl d
 | a m o ty=>
   have gen:(match Bs m o ty d with|some (g,v,st)=>DT.chk' g (K (st.put dst v))|none=>DT.bad).All (ChgS b):=by
    cases hst:Bs m o ty d with
    |none=>trivial
    | some r=>
      obtain⟨g,v,d1⟩:=r;exact DT.chk_all _ (hK _ ((hd.trans (dE hst)).trans (ChgS.put _ _ _)))
   cases o<;>first|exact gen|skip
   case pick c x y=>
    simp only[CG]
    have one:∀ (x:Opnd),(match A7 x d with|(v,st)=>if v.ok=true then K (st.put dst v) else DT.bad).All (ChgS b):=by
     intro x;simp only;split
     · exact hK _ ((hd.trans (ChgS.mvOut x d)).trans (ChgS.put _ _ _))
     · trivial
    cases hcv:c.dev d.sl with
    | bool t=>
      cases t with
      |lit t=>cases t<;>exact one _
      | dyn t=>
        simp only;split
        · exact⟨one x,one y⟩
        · exact hK _ (hd.trans (ChgS.put _ _ _))
    |_=>trivial
theorem WU(d:DS)(g:Nat)(t:Bool):ChgS d (MB d g t):=⟨Chg.put _ _ _,ChgB.refl _,ChgB.refl _⟩
theorem sk{o:DOper}{K:DS→DT}{b:DS}(hK:∀ d,ChgS b d→(K d).All (ChgS b)):∀ d,ChgS b d→(Ov o K d).All (ChgS b):=by
 intro d hd;unfold Ov;have hp:=tK (o:=o.op) (dst:=o.dst) hK
 cases hg:o.guard with
 |none=>exact hp d hd
 | some g=>
   obtain⟨g,want⟩:=g;simp only
   cases hgv:Bj d.sl g with
   | bool t=>
     cases t with
     | lit t=>
       simp only;split
       · exact hp d hd
       · exact hK _ (hd.trans (ChgS.put _ _ _))
     | dyn t=>
       have h1:=hd.trans (WU d g true);have h2:=hd.trans (WU d g false)
       cases want with
       |true=>exact⟨hp _ h1,hK _ (h2.trans (ChgS.put _ _ _))⟩
       |false=>exact⟨hK _ (h1.trans (ChgS.put _ _ _)),hp _ h2⟩
   | tup vs=>
     cases vs with
     |nil=>exact hK _ (hd.trans (ChgS.put _ _ _))
     |cons v r=>trivial
   |_=>trivial
theorem WY{b:DS}:∀ (ops:List DOper) (d:DS),ChgS b d→(IB ops d).All (ChgS b)
 |[],_,h=>h
 |_::r,d,h=>sk (WY r) d h
theorem iT:∀ (ops:List DOper) {d d':DS} {e:AExit},(IB ops d).lf=some (e,d')→e= .normal:=by
 intro ops
 have pick : ∀ {K:DS→DT} {e:AExit} {d':DS},(∀ d,(K d).lf=some (e,d')→e= .normal)→∀ (o:DOp) (dst:Option Nat) (d:DS),(CG o dst K d).lf=some (e,d')→e= .normal:=by
  intro K e d' hK o dst d hl
  cases o with
  | call m f p D args=>
    simp only[CG] at hl;split at hl
    · rw[DT.chk_lf] at hl;exact hK _ hl
    · cases hl
  | aw ws m o ty=>
    simp only[CG] at hl;split at hl
    · rw[DT.chk_lf] at hl;exact hK _ hl
    · cases hl
  | mark f M x y=>
    simp only[CG] at hl;split at hl
    · rw[DT.chk_lf] at hl;exact hK _ hl
    · cases hl
  | callp m f p D args=>
    simp only[CG] at hl;split at hl
    · rw[DT.chk_lf] at hl;exact hK _ hl
    · cases hl
  | callv m f p D args i c=>
    simp only[CG] at hl;split at hl
    · rw[DT.chk_lf] at hl;exact hK _ hl
    · cases hl
  | a m o ty=>
    have gen:(match Bs m o ty d with|some (g,v,st)=>DT.chk' g (K (st.put dst v))|none=>DT.bad).lf=some (e,d')→e= .normal:=by
     intro hl;split at hl
     · rw[DT.chk_lf] at hl;exact hK _ hl
     · cases hl
    cases o<;>first|exact gen hl|skip
    case pick c x y=>
     simp only[CG] at hl
     have one:∀ (x:Opnd),(match A7 x d with|(v,st)=>if v.ok=true then K (st.put dst v) else DT.bad).lf=some (e,d')→e= .normal:=by
      intro x hl;simp only at hl;split at hl
      · exact hK _ hl
      · cases hl
     cases hcv:c.dev d.sl with
     | bool t=>
       rw[hcv] at hl
       cases t with
       |lit t=>cases t<;>exact one _ hl
       | dyn t=>
         simp only at hl;split at hl
         · cases t<;>exact one _ hl
         · exact hK _ hl
     |_=>rw[hcv] at hl;cases hl
 induction ops with
 | nil=>
   intro d d' e hl;simp only[IB,DT.lf,Aj,Ak] at hl;exact hl.1.symm
 | cons o r ih=>
   intro d d' e hl
   have hr:∀ d,(IB r d).lf=some (e,d')→e= .normal:=fun d h=>ih h
   simp only[IB] at hl;unfold Ov at hl
   cases hg:o.guard with
   |none=>rw[hg] at hl;exact pick hr _ _ _ hl
   | some g=>
     obtain⟨g,want⟩:=g;rw[hg] at hl;simp only at hl
     cases hgv:Bj d.sl g with
     | bool t=>
       rw[hgv] at hl
       cases t with
       | lit t=>
         simp only at hl;split at hl
         · exact pick hr _ _ _ hl
         · exact hr _ hl
       | dyn t=>
         cases t<;>cases want<;>first|exact pick hr _ _ _ hl|exact hr _ hl
     | tup vs=>
       rw[hgv] at hl
       cases vs with
       |nil=>exact hr _ hl
       |cons v r=>cases hl
     |_=>rw[hgv] at hl;cases hl
theorem EL.put1{v:DV}:∀ {a:List DC} {b:List PV} (n:Nat),EL a b→EV v (Aa b n)→EL (C4 a n v) b
 |[],_,_,h,_=>h
 |_::_,[],_,h,_=>h.elim
 |_::_,_::_,0,h,hv=>⟨hv,h.2⟩
 |_::_,_::_,n+1,h,hv=>⟨h.1,EL.put1 n h.2 hv⟩
theorem EBx.put1{v:DV}{a:List DC}{b:List PV}(n:Nat)(h:EBx a b)(hv:EV v (Aa b n)):EBx (C4 a n v) b:=by
 rcases h with rfl|h
 · exact .inl rfl
 · exact .inr (h.put1 n hv)
theorem EB.put1{v:List DC}:∀ {a:List (List DC)} {b:List (List PV)} (n:Nat),EB a b→EBx v (Al b n)→EB (E8 a n v) b
 |[],_,_,h,_=>h
 |_::_,[],_,h,_=>h.elim
 |_::_,_::_,0,h,hv=>⟨hv,h.2⟩
 |_::_,_::_,n+1,h,hv=>⟨h.1,EB.put1 n h.2 hv⟩
def PS.at(s:PS):Pl→PV
 |.s i=>Aa s.sl i
 |.b i c=>Aa (Al s.bx i) c
 |.h i c=>Aa (Al s.hp i) c
theorem EBx.get{a:List DC}{b:List PV}(n:Nat)(h:EBx a b):EV (Bj a n) (Aa b n):=by
 rcases h with rfl|h
 · exact .inl rfl
 · exact h.get n
theorem ES.at{d:DS}{s:PS}(h:ES d s)(pl:Pl):EV (d.at pl) (s.at pl):=by
 cases pl with
 |s i=>exact h.sl.get i
 |b i c=>exact(h.bx.get i).get c
 |h i c=>exact(h.hp.get i).get c
theorem ES.wr{d:DS}{s:PS}(h:ES d s)(pl:Pl){v:DV}(hv:EV v (s.at pl)):ES (d.wr v pl) s:=by
 cases pl with
 |s i=>exact⟨h.sl.put1 i hv,h.bx,h.hp⟩
 |b i c=>exact⟨h.sl,h.bx.put1 i ((h.bx.get i).put1 c hv),h.hp⟩
 |h i c=>exact⟨h.sl,h.bx,h.hp.put1 i ((h.hp.get i).put1 c hv)⟩
theorem QC{q:Ql}{t:CT}{v:DV}{x:t.D}(h:t.ofQ q v=some x):(t.dv q x).enc=v.enc∧v≠.any:=by
 cases t with
 | int k=>
   cases v<;>try (cases h;done)
   rename_i k' n;have h':(if IntKind.same k k'=true then some n else none)=some x:=h;clear h;split at h'
   · rename_i hk;have:=T5 hk;subst this
     have h':=Cx h';subst h';exact⟨rfl,by simp⟩
   · cases h'
 | bool=>
   cases v<;>try (cases h;done)
   have h:=Cx h;subst h;exact⟨rfl,by simp⟩
 | str=>
   cases v<;>try (cases h;done)
   have h:=Cx h;subst h;exact⟨rfl,by simp⟩
 | ifc=>
   cases v<;>try (cases h;done)
   have h:=Cx h;subst h;exact⟨rfl,by simp⟩
 | sl r=>
   cases v<;>try (cases h;done)
   case nil q'=>
    have h':(if Em q q'=true then some ([]:List r.D) else none)=some x:=h;clear h;split at h'
    · rename_i hq;have:=Mf hq;subst this
      have h':=Cx h';subst h';exact⟨rfl,by simp⟩
    · cases h'
   case sl q' r' l=>
    have h':(if Em q q'=true then Mp (r':=r') (r:=r) l else none)=some x:=h;clear h;split at h'
    · rename_i hq;have:=Mf hq;subst this
      refine⟨?_,by simp⟩;show PV.sl q _=PV.sl q _;rw[(TA h').2]
    · cases h'
theorem UO:∀ {l:List (Ql×CT)} {vs:List DV} {x:AgX l},Ez l vs=some x→DV.encL (CI l x)=DV.encL vs
 |[],[],_,_=>rfl
 | [a],[v],x,h=>by
   show [(a.2.dv a.1 x).enc]=[v.enc]
   rw[(QC (q:=a.1) (t:=a.2) h).1]
 | a :: b::r,v::vs,x,h=>by
   have h':(match a.2.ofQ a.1 v,Ez (b::r) vs with|some x,some y=>some (x,y)|_,_=>none)=some x:=h
   clear h
   cases h1:a.2.ofQ a.1 v with
   |none=>rw[h1] at h';cases h'
   | some p=>
     cases h2:Ez (b::r) vs with
     |none=>rw[h1,h2] at h';cases h'
     | some q=>
       rw[h1,h2] at h'
       have h':=Cx h'
       subst h'
       show (a.2.dv a.1 p).enc::DV.encL (CI (b::r) q)=v.enc::DV.encL vs
       rw[(QC h1).1,UO h2]
theorem Q1{t:HT}{v:DV}{x:t.D}(h:t.of v=some x):(t.dv x).enc=v.enc∧v≠.any:=by
 cases t with
 |one q t=>exact QC (q:=q) (t:=t) h
 | agg l=>
   cases v<;>try (cases h;done)
   rename_i cs;refine⟨?_,by simp⟩;show PV.agg _=PV.agg _;rw[UO (l:=l) h]
theorem YU{A:DS}{s:PS}(hA:ES A s):∀ (H:List Hole) {K:DS} {x:GX H},ES K s→K6 A H=some x→ES (wrX K H x) s
 |[],K,x,hK,_=>hK
 | [a],K,x,hK,h=>by
   have h:a.t.of (A.at a.pl)=some x:=h
   obtain⟨h1,h2⟩:=Q1 h
   refine hK.wr a.pl (.inr ?_)
   rw[h1,(hA.at a.pl).of h2]
 | a :: b::r,K,x,hK,h=>by
   have h':(match a.t.of (A.at a.pl),K6 A (b::r) with|some x,some y=>some (x,y)|_,_=>none)=some x:=h
   clear h
   cases h1:a.t.of (A.at a.pl) with
   |none=>rw[h1] at h';cases h'
   | some p=>
     cases h2:K6 A (b::r) with
     |none=>rw[h1,h2] at h';cases h'
     | some q=>
       rw[h1,h2] at h'
       have h':=Cx h'
       subst h'
       obtain⟨h3,h4⟩:=Q1 h1
       refine YU hA (b::r) (x:=q) (hK.wr a.pl (.inr ?_)) h2
       rw[h3,(hA.at a.pl).of h4]
theorem iB(d:DS)(v:DV)(pl:Pl):ChgS d (d.wr v pl):=by
 cases pl with
 |s i=>exact⟨Chg.put _ _ _,ChgB.refl _,ChgB.refl _⟩
 |b i c=>exact⟨Chg.refl _,ChgB.put _ _ (Chg.put _ _ _),ChgB.refl _⟩
 |h i c=>exact⟨Chg.refl _,ChgB.refl _,ChgB.put _ _ (Chg.put _ _ _)⟩
theorem gJ:∀ (H:List Hole) (d:DS) (x:GX H),ChgS d (wrX d H x)
 |[],d,_=>ChgS.refl d
 |[a],d,_=>iB d _ _
 |a::b::r,d,x=>(iB d _ _).trans (gJ (b::r) _ _)
def LeC:List DC→List DC→Prop
 |[],[]=>True
 |k::a,b::r=>(k.v= .any∨k.v=b.v)∧LeC a r
 |_,_=>False
def LeB:List (List DC)→List (List DC)→Prop
 |[],[]=>True
 |k::a,b::r=>(k=[]∨LeC k b)∧LeB a r
 |_,_=>False
structure LeS (k b:DS):Prop where
 sl:LeC k.sl b.sl
 bx:LeB k.bx b.bx
 hp:LeB k.hp b.hp
theorem LeC.refl:∀ (k:List DC),LeC k k
 |[]=>trivial
 |_::r=>⟨.inr rfl,LeC.refl r⟩
theorem LeB.refl:∀ (k:List (List DC)),LeB k k
 |[]=>trivial
 |k::r=>⟨.inr (LeC.refl k),LeB.refl r⟩
theorem LeC.put{v:DV}:∀ {k b:List DC} (n:Nat),LeC k b→Bj k n= .any→LeC k (C4 b n v)
 |[],[],_,h,_=>h
 |[],_::_,_,h,_=>h.elim
 |_::_,[],_,h,_=>h.elim
 |_::_,_::_,0,h,ha=>⟨.inl ha,h.2⟩
 |_::_,_::_,n+1,h,ha=>⟨h.1,LeC.put n h.2 ha⟩
theorem LeB.put{v:DV}:∀ {k b:List (List DC)} (i c:Nat),LeB k b→Bj (Bz k i) c= .any→LeB k (E8 b i (C4 (Bz b i) c v))
 |[],[],_,_,h,_=>h
 |[],_::_,_,_,h,_=>h.elim
 |_::_,[],_,_,h,_=>h.elim
 |_::_,_::_,0,c,h,ha=>⟨h.1.imp id fun h=>h.put c ha,h.2⟩
 |_::_,_::_,n+1,c,h,ha=>⟨h.1,LeB.put n c h.2 ha⟩
theorem fK{v:DV}(h:v.isAny=true):v= .any:=by cases v<;>first|rfl|cases h
theorem LeS.wr{k b:DS}{v:DV}{pl:Pl}(h:LeS k b)(ha:(k.at pl).isAny=true):LeS k (b.wr v pl):=by
 have ha:=fK ha
 cases pl with
 |s i=>exact⟨h.sl.put i ha,h.bx,h.hp⟩
 |b i c=>exact⟨h.sl,h.bx.put i c ha,h.hp⟩
 |h i c=>exact⟨h.sl,h.bx,h.hp.put i c ha⟩
theorem LeS.wrX{k:DS}:∀ (H:List Hole) {b:DS} (x:GX H),LeS k b→NJ k H=true→LeS k (Go.Ag.wrX b H x)
 |[],_,_,h,_=>h
 | [a],_,_,h,ha=>by
   simp only[NJ,Ah] at ha;exact h.wr ha.1
 | a :: b::r,_,x,h,ha=>by
   have ha':(k.at a.pl).isAny=true∧NJ k (b::r)=true:=by
    have:((k.at a.pl).isAny&&NJ k (b::r))=true:=ha;simpa [Ah] using this
   exact LeS.wrX (b::r) _ (h.wr ha'.1) ha'.2
theorem sZ{a b:DV}(h:a.same b=true):a.enc=b.enc∧b≠.any:=by
 cases a<;>cases b<;>first|(cases h;done)|skip
 case undef.undef=>exact⟨rfl,by simp⟩
 case nil.nil q q'=>have:=Mf h;subst this;exact⟨rfl,by simp⟩
 case box.box=>simp only[DV.same,Ah,AW] at h;obtain⟨rfl,rfl⟩:=h;exact⟨rfl,by simp⟩
 case ptr.ptr=>simp only[DV.same,Ah,AW] at h;obtain⟨rfl,rfl⟩:=h;exact⟨rfl,by simp⟩
theorem YB:∀ {k b y:List DC} {p:List PV},Rc k y=true→LeC k b→Chg (Go.Ag.clean b) y→EL y p→EL k p
 |[],_,[],p,_,_,_,h=>h
 |[],_,_::_,_,h,_,_,_=>by cases h
 |_::_,_,[],_,h,_,_,_=>by cases h
 |_::_,[],_::_,_,_,h,_,_=>h.elim
 |_::_,_::_,_::_,[],_,_,_,h=>h.elim
 | k :: a,b::r,y::l,q::p,h,hl,hc,he=>by
   simp only[Rc,Ah,Cg] at h;refine⟨?_,YB h.2 hl.2 hc.2 he.2⟩;rcases h.1 with(h1|h1)|h1
   · exact .inl (fK h1)
   · rcases hl.1 with h2|h2
     · exact .inl h2
     · rcases hc.1 with h3|h3
       · simp[h3] at h1
       · have:y.v=k.v:=by rw[h3,h2]
         rcases he.1 with h4|h4
         · exact .inl (by rw[← this];exact h4)
         · exact .inr (by rw[← this];exact h4)
   · obtain⟨h2,h3⟩:=sZ h1;rcases he.1 with h4|h4
     · exact absurd h4 h3
     · exact .inr (by rw[h2];exact h4)
theorem YM:∀ {k b y:List (List DC)} {p:List (List PV)},Q7 k y=true→LeB k b→ChgB (Of b) y→EB y p→EB k p
 |[],_,[],p,_,_,_,h=>h
 |[],_,_::_,_,h,_,_,_=>by cases h
 |_::_,_,[],_,h,_,_,_=>by cases h
 |_::_,[],_::_,_,_,h,_,_=>h.elim
 |_::_,_::_,_::_,[],_,_,_,h=>h.elim
 | k :: a,b::r,y::l,q::p,h,hl,hc,he=>by
   simp only[Q7,Ah,Cg,AW] at h
   refine⟨?_,YM h.2 hl.2 hc.2 he.2⟩
   rcases h.1 with h1|h1
   · exact .inl (E4 h1)
   · rcases hl.1 with h2|h2
     · exact .inl h2
     · rcases he.1 with h3|h3
       · subst h3
         cases k with
         |nil=>exact .inl rfl
         |cons=>cases h1
       · exact .inr (YB h1 h2 hc.1 h3)
theorem vP{k b y:DS}{s:PS}(h:Zj k y=true)(hl:LeS k b)(hc:ChgS b.clean y)(he:ES y s):ES k s:=by
 simp only[Zj,Ah] at h;exact⟨YB h.1.1 hl.sl hc.sl he.sl,YM h.1.2 hl.bx hc.bx he.bx,YM h.2 hl.hp hc.hp he.hp⟩
theorem YG(pl:Nat→Pl):∀ (n:Nat) (x y:List DC),Chg x (JR pl n x y).2∧∀ p,EL x p→EL (JR pl n x y).2 p
 |_,[],_=>⟨trivial,fun _ h=>h⟩
 |_,_::_,[]=>⟨Chg.refl _,fun _ h=>h⟩
 | n,x::a,y::b=>by
   obtain⟨h1,h2⟩:=YG pl (n+1) a b
   simp only[JR]
   cases hr:JR pl (n+1) a b with
   | mk H l=>
     rw[hr] at h1 h2
     cases jA x.v y with
     |left=>exact⟨⟨.inr rfl,h1⟩,fun p h=>by cases p with|nil=>exact h|cons q p=>exact⟨h.1,h2 p h.2⟩⟩
     |hole t=>exact⟨⟨.inl rfl,h1⟩,fun p h=>by cases p with|nil=>exact h|cons q p=>exact⟨.inl rfl,h2 p h.2⟩⟩
     |kill=>exact⟨⟨.inl rfl,h1⟩,fun p h=>by cases p with|nil=>exact h|cons q p=>exact⟨.inl rfl,h2 p h.2⟩⟩
theorem Yb(pl:Nat→Nat→Pl):∀ (n:Nat) (x y:List (List DC)),ChgB x (MD pl n x y).2∧∀ p,EB x p→EB (MD pl n x y).2 p
 |_,[],_=>⟨trivial,fun _ h=>h⟩
 |_,_::_,[]=>⟨ChgB.refl _,fun _ h=>h⟩
 | n, x :: a,y::b=>by
   obtain⟨h1,h2⟩:=Yb pl (n+1) a b
   simp only[MD]
   cases hr:MD pl (n+1) a b with
   | mk H l=>
     rw[hr] at h1 h2
     simp only
     split
     · obtain⟨h3,h4⟩:=YG (pl n) 0 x y
       cases hc:JR (pl n) 0 x y with
       | mk H' x'=>
         rw[hc] at h3 h4
         exact⟨⟨h3,h1⟩,fun p h=>by
          cases p with
          |nil=>exact h
          |cons q p=>exact⟨h.1.elim (fun e=>by subst e;cases y<;>(simp only[JR] at hc;simp only[Ak] at hc;exact .inl hc.2.symm)) fun h=>.inr (h4 q h),h2 p h.2⟩⟩
     · exact⟨⟨by cases x<;>trivial,h1⟩,fun p h=>by cases p with|nil=>exact h|cons q p=>exact⟨.inl rfl,h2 p h.2⟩⟩
theorem iR(x y:DS):ChgS x (Q8 x y).2∧∀ s,ES x s→ES (Q8 x y).2 s:=by
 obtain⟨h1,h2⟩:=YG .s 0 x.sl y.sl;obtain⟨h3,h4⟩:=Yb .b 0 x.bx y.bx;obtain⟨h5,h6⟩:=Yb .h 0 x.hp y.hp;exact⟨⟨h1,h3,h5⟩,fun s h=>⟨h2 _ h.sl,h4 _ h.bx,h6 _ h.hp⟩⟩
theorem XF{live:List Nat}{body:DS→DT}{A:DS}:∀ {n:Nat} {cur:DS} {H:List Hole} {K:DS},QU live body A n cur=some (H,K)→∃ Y,Q8 A Y=(H,K)
 | 0,cur,H,K,h=>by
   simp only[QU] at h
   split at h
   · rename_i m _
     exact⟨_,Cx h⟩
   · cases h
 | n + 1,cur,H,K,h=>by
   simp only[QU] at h
   split at h
   · split at h
     · exact XF h
     · cases h
   · cases h
theorem WB(live:List Nat)(d:DS):ChgS d (DF live d):=⟨Chg.keep _ _ _,ChgB.refl _,ChgB.refl _⟩
theorem qz(live:List Nat)(d:DS):ChgS d (UW live d):=⟨Chg.trim _ _ _,ChgB.refl _,ChgB.refl _⟩
theorem ui {live:List Nat} {n:Nat} {body:DS→DT} {pb:FB→PS→Prop} (hall:∀ d,(body d).All (ChgS d.clean))
 (hb:∀ d s e d' (k:FB),ES d s→(body d).ok.den→(body d).lf=some (e,d')→(∀ s',ES d' s'→k e s')→pb k s)
 {d d':DS} {s:PS} {e:AExit} {k:FB} (hs:ES d s) (hok:(Oj live n body d).ok.den) (hl:(Oj live n body d).lf=some (e,d')) (hk:∀ s',ES d' s'→k e s'):∃ n,QG pb live k n s:=by
 have hA:ES (DF live d) { s with sl:=Eh live 0 s.sl }:=hs.keep live
 unfold Oj at hok hl
 split at hok
 · rename_i hn
   rw[Ab hn] at hl;rw[DT.map_ok] at hok;rw[DT.map_lf] at hl;obtain⟨e0,d0,h0⟩:=DT.ok_lf hok;rw[h0] at hl;simp only[Cc,Aj,Ak] at hl;obtain⟨rfl,rfl⟩:=hl
   have hn:(body (DF live d)).norm= .none:=by cases h:(body (DF live d)).norm<;>rw[h] at hn<;>first|rfl|cases hn
   have he:=DT.norm_none hn h0;refine⟨1,hb _ _ _ _ _ hA hok h0 fun s' hs'=>?_⟩
   cases e0<;>first|(cases he;done)|exact hk _ hs'.rem
 · rename_i hn
   rw[Ad hn] at hl;split at hok
   · exact hok.elim
   · rename_i H K hd;rw[hd] at hl;simp only at hl;obtain⟨Y,hY⟩:=XF hd;split at hok
     · exact hok.elim
     · rename_i x0 hx0;rw[hx0] at hl;simp only at hl;split at hok
       · rename_i hh;rw[Ab hh] at hl;simp only[DT.ok,PX.land_den,PX.den] at hok;obtain⟨hlo,_⟩:=hok;simp only[DT.lf] at hl
         have hK:ES K { s with sl:=Eh live 0 s.sl }:=by
          have:=(iR (DF live d) Y).2 _ hA;rw[hY] at this;exact this
         have h0:ES (wrX K H x0) { s with sl:=Eh live 0 s.sl }:=YU hA H hK hx0;have hto:=hlo.to
         have hle:∀ x,LeS K (wrX K H x):=fun x=>LeS.wrX H x ⟨LeC.refl _,LeB.refl _,LeB.refl _⟩ hh
         have main:∀ {x y:GX H},LoopTo (On body K H) (Ol live body K H) (fun x=>(ji live body K H x).den) x y →
          ((lT body K H y).drop.map (K4 (wrX K H y))).lf=some (e,d') →
          ∃ n,∀ s:PS,ES (wrX K H x) { s with sl:=Eh live 0 s.sl }→QG pb live k n s:=by
          intro x y h
          induction h with
          | stop hg hc=>
            rename_i x;intro hl;have hg:=((PX.land_den _ _).mp hg).1;obtain⟨e0,d0,h0⟩:=DT.ok_lf hg
            have he:e0.isN=false:=by
             unfold On at hc
             cases hcc:(lT body K H x).cont with
             |none=>rw[DT.cont_none hcc] at h0;cases h0
             |some b=>rw[hcc] at hc;rw[← DT.cont_s hcc h0];exact hc
            rw[DT.map_lf,DT.drop_lf h0 he] at hl;simp only[Cc,Aj,Ak] at hl;obtain⟨rfl,rfl⟩:=hl;refine⟨1,fun s hs=>hb _ _ _ _ _ hs hg h0 fun s' hs'=>?_⟩
            cases e0<;>first|(cases he;done)|exact hk _ hs'.rem
          | go hg hc h3 ih=>
            rename_i x y';intro hl;obtain⟨n,ih⟩:=ih hl;have hg2:=(PX.land_den _ _).mp hg;obtain⟨e0,d0,h0⟩:=DT.ok_lf hg2.1
            have he:e0= .normal:=by
             unfold On at hc
             cases hcc:(lT body K H x).cont with
             |none=>rw[DT.cont_none hcc] at h0;cases h0
             | some b=>
               rw[hcc] at hc;have:=DT.cont_s hcc h0;rw[show b.b=true from hc] at this
               cases e0<;>first|rfl|cases this
            subst he;refine⟨n+1,fun s hs=>hb _ _ _ _ _ hs hg2.1 h0 fun s' hs'=>?_⟩;refine ih s' ?_;have hg3:=hg2.2
            cases hnm:(lT body K H x).norm with
            |none=>have:=DT.norm_none hnm h0;cases this
            |fail=>rw[hnm] at hg3;exact hg3.elim
            | some m=>
              rw[hnm] at hg3;simp only at hg3;split at hg3
              · rename_i hf;simp only[Ah] at hf;obtain⟨hf1,hf2⟩:=hf;have hm:ES m s':=DT.norm_s (hall _) hnm h0 hs';have hm2:=hm.keep live;have hch:ChgS (wrX K H x).clean (DF live m):=(DT.norm_chg (hall _) hnm).trans (WB live m);have hK':=vP hf1 (hle x) hch hm2;obtain⟨y2,hy2⟩:=Option.isSome_iff_exists.mp hf2
                have hnx:Ol live body K H x=y2:=by unfold Ol;rw[hnm];simp only[hy2]
                rw[hnx];exact YU hm2 H hK' hy2
              · exact hg3.elim
         obtain⟨n,hn⟩:=main hto hl;exact⟨n,hn s h0⟩
       · exact hok.elim
theorem sf{live:List Nat}{n:Nat}{body:DS→DT}(hall:∀ d,(body d).All (ChgS d.clean))(d:DS):(Oj live n body d).All (ChgS d):=by
 unfold Oj;split
 · exact DT.map_all (fun st h=>(WB live d).trans h.rem) (hall _)
 · split
   · trivial
   · rename_i H K hd;obtain⟨Y,hY⟩:=XF hd;split
     · trivial
     · split
       · have hK:ChgS d K:=by
          have:=(iR (DF live d) Y).1;rw[hY] at this;exact(WB live d).trans this
         exact DT.map_all (fun st h=>(hK.trans (gJ H K _)).trans h.rem) (DT.drop_all (hall _))
       · trivial
end
end Go.Ag
