/- Part 4 of what FnNumbers needs. No conditions. -/
import Derived.Test.YtijikmakanpmlaaDoorLibC
namespace Go.Ag
set_option linter.unusedSimpArgs false
set_option linter.unusedVariables false
noncomputable section
noncomputable section
def shut.{u}{α:Sort u}(a:α):{x:α // x=a}:=Classical.choice ⟨⟨a,rfl⟩⟩
section
variable {α:Type}
def kV(k:IntKind)(a b:Int):Int:=k.wrap (a+b)
def lB(k:IntKind)(a b:Int):Int:=k.wrap (a-b)
def kB(k:IntKind)(a b:Int):Int:=k.wrap (a*b)
def kM(k:IntKind)(a b:Int):Int:=k.wrap (a.tdiv b)
def lk(a b:Int):Int:=a.tmod b
def lp(k:IntKind)(a b:Int):Int:=k.wrap (BitVec.ofInt k.bits a &&& BitVec.ofInt k.bits b).toNat
def lM(k:IntKind)(a b:Int):Int:=k.wrap (BitVec.ofInt k.bits a ||| BitVec.ofInt k.bits b).toNat
def kL(k:IntKind)(a b:Int):Int:=k.wrap (BitVec.ofInt k.bits a ^^^ BitVec.ofInt k.bits b).toNat
def ic(k:IntKind)(a b:Int):Int:=k.wrap (BitVec.ofInt k.bits a &&& ~~~BitVec.ofInt k.bits b).toNat
def kG(k:IntKind)(a b:Int):Int:=k.wrap (a*2^min b.toNat k.bits)
def lg(k:IntKind)(a b:Int):Int:=a.fdiv (2^min b.toNat k.bits)
def kW(k:IntKind)(a:Int):Int:=k.wrap (0-a)
def kc(k:IntKind)(a:Int):Int:=k.wrap a
def kD(a b:Int):Int:=if b<a then b else a
def lq(a b:Int):Int:=if b > a then b else a
def kC(a:Int):Nat:=a.toNat
def lX(a b:Int):Bool:=a == b
def lW(a b:Int):Bool:=a != b
def lV(a b:Int):Bool:=decide (a<b)
def lU(a b:Int):Bool:=decide (a≤b)
def lJ(a b:Int):Bool:=decide (a > b)
def lQ(a b:Int):Bool:=decide (a≥b)
def kP(a b:List UInt8):List UInt8:=a++b
def lR(a b:List UInt8):Bool:=a == b
def lL(a b:List UInt8):Bool:=!(a == b)
def lC(s:List UInt8)(j:Int):Int:=(s.getD j.toNat 0).toNat
def lA(s:List UInt8):List Int:=s.map fun b=>((b.toNat:Nat):Int)
def lj(l:List Int):List UInt8:=l.map fun n=>UInt8.ofNat n.toNat
def kJ(l:List α):Int:=l.length
def lY(l:List α):Nat:=l.length
def kH(l:List α)(j:Nat)(d:α):α:=l.getD j d
def lG(l:List α)(j:Nat)(x:α):List α:=l.set j x
def kA(l:List α)(a b:Nat):List α:=(l.drop a).take (b-a)
def kd(l:List α)(n:Nat):List α:=l.take n
def k7(l m:List α):List α:=l++m
def lz(n:Int)(x:α):List α:=List.replicate n.toNat x
def lD(a:Bool):Bool:=!a
def kE(a b:Bool):Bool:=a&&b
def lI(a b:Bool):Bool:=a||b
def lu(a b:Bool):Bool:=a == b
def kK(c:Bool)(x y:α):α:=bif c then x else y
end
structure Leaf where
 iAdd:∀ (k:IntKind) (a b:Int),Int
 iSub:∀ (k:IntKind) (a b:Int),Int
 iMul:∀ (k:IntKind) (a b:Int),Int
 iQuo:∀ (k:IntKind) (a b:Int),Int
 iRem:∀ (a b:Int),Int
 iAnd:∀ (k:IntKind) (a b:Int),Int
 iOr:∀ (k:IntKind) (a b:Int),Int
 iXor:∀ (k:IntKind) (a b:Int),Int
 iAndNot:∀ (k:IntKind) (a b:Int),Int
 iShl:∀ (k:IntKind) (a b:Int),Int
 iShr:∀ (k:IntKind) (a b:Int),Int
 iNeg:∀ (k:IntKind) (a:Int),Int
 iConv:∀ (k:IntKind) (a:Int),Int
 iMin:∀ (a b:Int),Int
 iMax:∀ (a b:Int),Int
 iNat:∀ (a:Int),Nat
 iEq:∀ (a b:Int),Bool
 iNe:∀ (a b:Int),Bool
 iLt:∀ (a b:Int),Bool
 iLe:∀ (a b:Int),Bool
 iGt:∀ (a b:Int),Bool
 iGe:∀ (a b:Int),Bool
 sAdd:∀ (a b:List UInt8),List UInt8
 sEq:∀ (a b:List UInt8),Bool
 sNe:∀ (a b:List UInt8),Bool
 sGet:∀ (s:List UInt8) (j:Int),Int
 sRow:∀ (s:List UInt8),List Int
 rowS:∀ (l:List Int),List UInt8
 lLen:∀ {α:Type} (l:List α),Int
 lN:∀ {α:Type} (l:List α),Nat
 lGet:∀ {α:Type} (l:List α) (j:Nat) (d:α),α
 lSet:∀ {α:Type} (l:List α) (j:Nat) (x:α),List α
 lSub:∀ {α:Type} (l:List α) (a b:Nat),List α
 lTake:∀ {α:Type} (l:List α) (n:Nat),List α
 lApp:∀ {α:Type} (l m:List α),List α
 lRep:∀ {α:Type} (n:Int) (x:α),List α
 bNot:∀ (a:Bool),Bool
 bAnd:∀ (a b:Bool),Bool
 bOr:∀ (a b:Bool),Bool
 bIff:∀ (a b:Bool),Bool
 bSel:∀ {α:Type} (c:Bool) (x y:α),α
def Y8:Leaf:=⟨@kV,@lB,@kB,@kM,@lk,@lp,@lM,@kL,@ic,@kG,@lg,@kW,@kc,@kD,@lq,@kC,@lX,@lW,@lV,@lU,@lJ,@lQ,@kP,@lR,@lL,@lC,@lA,@lj,@kJ,@lY,@kH,@lG,@kA,@kd,@k7,@lz,@lD,@kE,@lI,@lu,@kK⟩
def Ap:{l:Leaf // l=Y8}:=Classical.choice ⟨⟨Y8,rfl⟩⟩
section
variable {α:Type}
@[irreducible] def iAdd(k:IntKind)(a b:Int):Int:=Ap.1.iAdd k a b
theorem YQ(k:IntKind)(a b:Int):iAdd k a b=(k.wrap (a+b)):=by unfold iAdd;rw[Ap.2];rfl
@[irreducible] def iSub(k:IntKind)(a b:Int):Int:=Ap.1.iSub k a b
theorem YB(k:IntKind)(a b:Int):iSub k a b=(k.wrap (a-b)):=by unfold iSub;rw[Ap.2];rfl
@[irreducible] def iMul(k:IntKind)(a b:Int):Int:=Ap.1.iMul k a b
theorem YO(k:IntKind)(a b:Int):iMul k a b=(k.wrap (a*b)):=by unfold iMul;rw[Ap.2];rfl
@[irreducible] def iQuo(k:IntKind)(a b:Int):Int:=Ap.1.iQuo k a b
theorem j4(k:IntKind)(a b:Int):iQuo k a b=(k.wrap (a.tdiv b)):=by unfold iQuo;rw[Ap.2];rfl
@[irreducible] def iRem(a b:Int):Int:=Ap.1.iRem a b
theorem Yu(a b:Int):iRem a b=(a.tmod b):=by unfold iRem;rw[Ap.2];rfl
@[irreducible] def iAnd(k:IntKind)(a b:Int):Int:=Ap.1.iAnd k a b
theorem TG(k:IntKind)(a b:Int):iAnd k a b=(k.wrap (BitVec.ofInt k.bits a &&& BitVec.ofInt k.bits b).toNat):=by unfold iAnd;rw[Ap.2];rfl
@[irreducible] def iOr(k:IntKind)(a b:Int):Int:=Ap.1.iOr k a b
theorem kU(k:IntKind)(a b:Int):iOr k a b=(k.wrap (BitVec.ofInt k.bits a ||| BitVec.ofInt k.bits b).toNat):=by unfold iOr;rw[Ap.2];rfl
@[irreducible] def iXor(k:IntKind)(a b:Int):Int:=Ap.1.iXor k a b
theorem ks(k:IntKind)(a b:Int):iXor k a b=(k.wrap (BitVec.ofInt k.bits a ^^^ BitVec.ofInt k.bits b).toNat):=by unfold iXor;rw[Ap.2];rfl
@[irreducible] def iAndNot(k:IntKind)(a b:Int):Int:=Ap.1.iAndNot k a b
theorem fD(k:IntKind)(a b:Int):iAndNot k a b=(k.wrap (BitVec.ofInt k.bits a &&& ~~~BitVec.ofInt k.bits b).toNat):=by unfold iAndNot;rw[Ap.2];rfl
@[irreducible] def iShl(k:IntKind)(a b:Int):Int:=Ap.1.iShl k a b
theorem ku(k:IntKind)(a b:Int):iShl k a b=(k.wrap (a*2^min b.toNat k.bits)):=by unfold iShl;rw[Ap.2];rfl
@[irreducible] def iShr(k:IntKind)(a b:Int):Int:=Ap.1.iShr k a b
theorem Ym(k:IntKind)(a b:Int):iShr k a b=(a.fdiv (2^min b.toNat k.bits)):=by unfold iShr;rw[Ap.2];rfl
@[irreducible] def iNeg(k:IntKind)(a:Int):Int:=Ap.1.iNeg k a
theorem kq(k:IntKind)(a:Int):iNeg k a=(k.wrap (0-a)):=by unfold iNeg;rw[Ap.2];rfl
@[irreducible] def iConv(k:IntKind)(a:Int):Int:=Ap.1.iConv k a
theorem SU(k:IntKind)(a:Int):iConv k a=(k.wrap a):=by unfold iConv;rw[Ap.2];rfl
@[irreducible] def iMin(a b:Int):Int:=Ap.1.iMin a b
theorem j3(a b:Int):iMin a b=(if b<a then b else a):=by unfold iMin;rw[Ap.2];rfl
@[irreducible] def iMax(a b:Int):Int:=Ap.1.iMax a b
theorem Tz(a b:Int):iMax a b=(if b > a then b else a):=by unfold iMax;rw[Ap.2];rfl
@[irreducible] def iNat(a:Int):Nat:=Ap.1.iNat a
theorem TB(a:Int):iNat a=(a.toNat):=by unfold iNat;rw[Ap.2];rfl
@[irreducible] def iEq(a b:Int):Bool:=Ap.1.iEq a b
theorem Qx(a b:Int):iEq a b=(a == b):=by unfold iEq;rw[Ap.2];rfl
@[irreducible] def iNe(a b:Int):Bool:=Ap.1.iNe a b
theorem Y3(a b:Int):iNe a b=(a != b):=by unfold iNe;rw[Ap.2];rfl
@[irreducible] def iLt(a b:Int):Bool:=Ap.1.iLt a b
theorem Ze(a b:Int):iLt a b=(decide (a<b)):=by unfold iLt;rw[Ap.2];rfl
@[irreducible] def iLe(a b:Int):Bool:=Ap.1.iLe a b
theorem Y6(a b:Int):iLe a b=(decide (a≤b)):=by unfold iLe;rw[Ap.2];rfl
@[irreducible] def iGt(a b:Int):Bool:=Ap.1.iGt a b
theorem YZ(a b:Int):iGt a b=(decide (a > b)):=by unfold iGt;rw[Ap.2];rfl
@[irreducible] def iGe(a b:Int):Bool:=Ap.1.iGe a b
theorem YW(a b:Int):iGe a b=(decide (a≥b)):=by unfold iGe;rw[Ap.2];rfl
@[irreducible] def sAdd(a b:List UInt8):List UInt8:=Ap.1.sAdd a b
theorem YR(a b:List UInt8):sAdd a b=(a++b):=by unfold sAdd;rw[Ap.2];rfl
@[irreducible] def sEq(a b:List UInt8):Bool:=Ap.1.sEq a b
theorem Zd(a b:List UInt8):sEq a b=(a == b):=by unfold sEq;rw[Ap.2];rfl
@[irreducible] def sNe(a b:List UInt8):Bool:=Ap.1.sNe a b
theorem Zc(a b:List UInt8):sNe a b=(!(a == b)):=by unfold sNe;rw[Ap.2];rfl
@[irreducible] def sGet(s:List UInt8)(j:Int):Int:=Ap.1.sGet s j
theorem Yg(s:List UInt8)(j:Int):sGet s j=((s.getD j.toNat 0).toNat):=by unfold sGet;rw[Ap.2];rfl
@[irreducible] def sRow(s:List UInt8):List Int:=Ap.1.sRow s
theorem YT(s:List UInt8):sRow s=(s.map fun b=>((b.toNat:Nat):Int)):=by unfold sRow;rw[Ap.2];rfl
@[irreducible] def rowS(l:List Int):List UInt8:=Ap.1.rowS l
theorem Yj(l:List Int):rowS l=(l.map fun n=>UInt8.ofNat n.toNat):=by unfold rowS;rw[Ap.2];rfl
@[irreducible] def lLen(l:List α):Int:=Ap.1.lLen l
theorem TA(l:List α):lLen l=(l.length):=by unfold lLen;rw[Ap.2];rfl
@[irreducible] def lN(l:List α):Nat:=Ap.1.lN l
theorem Nl(l:List α):lN l=(l.length):=by unfold lN;rw[Ap.2];rfl
@[irreducible] def lGet(l:List α)(j:Nat)(d:α):α:=Ap.1.lGet l j d
theorem KO(l:List α)(j:Nat)(d:α):lGet l j d=(l.getD j d):=by unfold lGet;rw[Ap.2];rfl
@[irreducible] def lSet(l:List α)(j:Nat)(x:α):List α:=Ap.1.lSet l j x
theorem MO(l:List α)(j:Nat)(x:α):lSet l j x=(l.set j x):=by unfold lSet;rw[Ap.2];rfl
@[irreducible] def lSub(l:List α)(a b:Nat):List α:=Ap.1.lSub l a b
theorem Tg(l:List α)(a b:Nat):lSub l a b=((l.drop a).take (b-a)):=by unfold lSub;rw[Ap.2];rfl
@[irreducible] def lTake(l:List α)(n:Nat):List α:=Ap.1.lTake l n
theorem S0(l:List α)(n:Nat):lTake l n=(l.take n):=by unfold lTake;rw[Ap.2];rfl
@[irreducible] def lApp(l m:List α):List α:=Ap.1.lApp l m
theorem Ji(l m:List α):lApp l m=(l++m):=by unfold lApp;rw[Ap.2];rfl
@[irreducible] def lRep(n:Int)(x:α):List α:=Ap.1.lRep n x
theorem Ye(n:Int)(x:α):lRep n x=(List.replicate n.toNat x):=by unfold lRep;rw[Ap.2];rfl
@[irreducible] def bNot(a:Bool):Bool:=Ap.1.bNot a
theorem K3(a:Bool):bNot a=(!a):=by unfold bNot;rw[Ap.2];rfl
@[irreducible] def bAnd(a b:Bool):Bool:=Ap.1.bAnd a b
theorem S5(a b:Bool):bAnd a b=(a&&b):=by unfold bAnd;rw[Ap.2];rfl
@[irreducible] def bOr(a b:Bool):Bool:=Ap.1.bOr a b
theorem YV(a b:Bool):bOr a b=(a||b):=by unfold bOr;rw[Ap.2];rfl
@[irreducible] def bIff(a b:Bool):Bool:=Ap.1.bIff a b
theorem Yf(a b:Bool):bIff a b=(a == b):=by unfold bIff;rw[Ap.2];rfl
@[irreducible] def bSel(c:Bool)(x y:α):α:=Ap.1.bSel c x y
theorem Th(c:Bool)(x y:α):bSel c x y=(bif c then x else y):=by unfold bSel;rw[Ap.2];rfl
end
mutual
inductive CT where
 |int (k:IntKind)|bool|str|ifc|sl (r:RT)
inductive RT where
 |one (t:CT)|cons (t:CT) (r:RT)
end
abbrev mi:RT:=.cons (.int .i64) (.cons (.int .i64) (.one (.int .i64)))
abbrev Hv:RT:=.cons (.int .i64) (.cons (.int .i64) (.cons (.int .i64) (.one (.int .i64))))
abbrev mh:RT:=.cons (.int .i64) (.cons (.int .i64) (.cons (.int .i64) (.cons (.int .i64) (.one (.int .i64)))))
mutual
def CT.D:CT→Type
 |.int _=>Int
 |.bool=>Bool
 |.str=>List UInt8
 |.ifc=>Bool
 |.sl r=>List r.D
def RT.D:RT→Type
 |.one t=>t.D
 |.cons t r=>t.D×r.D
end
def RT.w:RT→Nat
 |.one _=>1
 |.cons _ r=>r.w+1
def CT.dflt:(t:CT)→t.D
 |.int _=>(0:Int)
 |.bool=>false
 |.str=>([]:List UInt8)
 |.ifc=>true
 |.sl r=>([]:List r.D)
def RT.dflt:(r:RT)→r.D
 |.one t=>t.dflt
 |.cons t r=>(t.dflt,r.dflt)
mutual
def CT.beq:CT→CT→Bool
 |.int k,.int k'=>decide (k=k')
 |.bool,.bool=>true
 |.str,.str=>true
 |.ifc,.ifc=>true
 |.sl r,.sl r'=>RT.beq r r'
 |_,_=>false
def RT.beq:RT→RT→Bool
 |.one t,.one t'=>CT.beq t t'
 |.cons t r,.cons t' r'=>CT.beq t t'&&RT.beq r r'
 |_,_=>false
end
mutual
theorem CT.beq_eq:∀ {a b:CT},CT.beq a b=true→a=b
 |.int k,.int k',h=>by simp only[CT.beq,Bf] at h;rw[h]
 |.bool,.bool,_=>rfl
 |.str,.str,_=>rfl
 |.ifc,.ifc,_=>rfl
 |.sl r,.sl r',h=>by rw[RT.beq_eq (a:=r) (b:=r') h]
 |.int _,.bool,h|.int _,.str,h|.int _,.ifc,h|.int _,.sl _,h=>by cases h
 |.bool,.int _,h|.bool,.str,h|.bool,.ifc,h|.bool,.sl _,h=>by cases h
 |.str,.int _,h|.str,.bool,h|.str,.ifc,h|.str,.sl _,h=>by cases h
 |.ifc,.int _,h|.ifc,.bool,h|.ifc,.str,h|.ifc,.sl _,h=>by cases h
 |.sl _,.int _,h|.sl _,.bool,h|.sl _,.str,h|.sl _,.ifc,h=>by cases h
theorem RT.beq_eq:∀ {a b:RT},RT.beq a b=true→a=b
 |.one t,.one t',h=>by rw[CT.beq_eq (a:=t) (b:=t') h]
 | .cons t r,.cons t' r',h=>by
   simp only[RT.beq,Ai] at h
   rw[CT.beq_eq h.1,RT.beq_eq h.2]
 |.one _,.cons _ _,h=>by cases h
 |.cons _ _,.one _,h=>by cases h
end
def Jw{r' r:RT}(l:List r'.D):Option (List r.D):=if h:RT.beq r' r=true then some ((congrArg (fun x:RT=>List x.D) (RT.beq_eq h)).mp l) else none
inductive BX where
 |lit (b:Bool)|dyn (b:Bool)
def BX.b:BX→Bool
 |.lit b=>b
 |.dyn b=>b
inductive DV where
 |any
 |undef
 |bool (b:BX)
 |int (k:IntKind) (n:Int)
 |str (s:List UInt8)
 |ifc (b:Bool)
 |nil (q:Ql)
 |sl (q:Ql) (r:RT) (l:List r.D)
 |ep (q:Ql) (r:RT) (l:List r.D) (j o:Nat)
 |box (i o:Nat)
 |ptr (i o:Nat)
 |agg (cs:List DV)
 |tup (vs:List DV)
 deriving Inhabited
mutual
def CT.enc:(t:CT)→t.D→PV
 |.int k,n=>.fl (.int k n)
 |.bool,b=>.fl (.bool b)
 |.str,s=>.fl (.str s)
 |.ifc,b=>.fl (.ifc b)
 |.sl r,l=>.sl .own (l.map (RT.enc r))
def RT.enc:(r:RT)→r.D→List PV
 |.one t,x=>[CT.enc t x]
 |.cons t r,x=>CT.enc t x.1::RT.enc r x.2
end
mutual
def DV.enc:DV→PV
 |.any=>.fl .undef
 |.undef=>.fl .undef
 |.bool b=>.fl (.bool b.b)
 |.int k n=>.fl (.int k n)
 |.str s=>.fl (.str s)
 |.ifc b=>.fl (.ifc b)
 |.nil q=>.sl q []
 |.sl q r l=>.sl q (l.map r.enc)
 |.ep q r l j o=>.ep q (l.map r.enc) j o
 |.box i o=>.box i o
 |.ptr i o=>.ptr i o
 |.agg cs=>.agg (DV.encL cs)
 |.tup vs=>.tup (DV.encL vs)
def DV.encL:List DV→List PV
 |[]=>[]
 |v::r=>v.enc::DV.encL r
end
def CT.dv(q:Ql):(t:CT)→t.D→DV
 |.int k,n=>.int k n
 |.bool,b=>.bool (.dyn b)
 |.str,s=>.str s
 |.ifc,b=>.ifc b
 |.sl r,l=>.sl q r l
def RT.dv(q:Ql):(r:RT)→r.D→List DV
 |.one t,x=>[CT.dv q t x]
 |.cons t r,x=>CT.dv q t x.1::RT.dv q r x.2
def CT.of:(t:CT)→DV→Option t.D
 |.int k,.int k' n=>if k=k' then some n else none
 |.bool,.bool b=>some b.b
 |.str,.str s=>some s
 |.ifc,.ifc b=>some b
 |.sl r,.nil .own=>some ([]:List r.D)
 |.sl r,.sl .own r' l=>Jw (r':=r') (r:=r) l
 |_,_=>none
def RT.of:(r:RT)→List DV→Option r.D
 |.one t,[v]=>t.of v
 | .cons t r,v::vs=>(match t.of v,r.of vs with
   |some x,some y=>some (x,y)
   |_,_=>none)
 |_,_=>none
def DV.ty:DV→Option CT
 |.int k _=>some (.int k)
 |.bool _=>some .bool
 |.str _=>some .str
 |.ifc _=>some .ifc
 |.sl _ r _=>some (.sl r)
 |_=>none
def Ui:List DV→Option RT
 |[]=>none
 |[v]=>v.ty.map .one
 | v::r=>(match v.ty,Ui r with
   |some t,some r=>some (.cons t r)
   |_,_=>none)
def DV.cells:DV→List DV
 |.agg cs=>cs
 |v=>[v]
def Ql.own':Ql→Bool
 |.own|.ownw _=>true
 |_=>false
def Ql.bor' (hd:Hd):Ql→Bool
 |.bor h _ _=>h == hd
 |.pre h _=>h == hd
 |_=>false
mutual
def DV.own:DV→Bool
 |.nil q=>q.own'
 |.sl q _ _=>q.own'
 |.agg cs=>DV.ownL cs
 |.tup vs=>DV.ownL vs
 |_=>false
def DV.ownL:List DV→Bool
 |[]=>false
 |v::r=>v.own||DV.ownL r
end
mutual
def DV.bor(hd:Hd):DV→Bool
 |.nil q=>q.bor' hd
 |.sl q _ _=>q.bor' hd
 |.ep q _ _ _ _=>q.bor' hd
 |.agg cs=>DV.borL hd cs
 |.tup vs=>DV.borL hd vs
 |_=>false
def DV.borL(hd:Hd):List DV→Bool
 |[]=>false
 |v::r=>v.bor hd||DV.borL hd r
end
mutual
def DV.hold:DV→Bool
 |.nil q=>(match q with|.frz=>false|_=>true)
 |.sl q _ _=>(match q with|.frz=>false|_=>true)
 |.ep q _ _ _ _=>(match q with|.frz=>false|_=>true)
 |.agg cs=>DV.holdL cs
 |.tup vs=>DV.holdL vs
 |_=>false
def DV.holdL:List DV→Bool
 |[]=>false
 |v::r=>v.hold||DV.holdL r
end
mutual
def DV.fz:DV→DV
 |.nil _=>.nil .frz
 |.sl _ r l=>.sl .frz r l
 |.ep _ r l j o=>.ep .frz r l j o
 |.agg cs=>.agg (DV.fzL cs)
 |.tup vs=>.tup (DV.fzL vs)
 |v=>v
def DV.fzL:List DV→List DV
 |[]=>[]
 |v::r=>v.fz::DV.fzL r
end
def Ql.detop:Ql→Ql
 |.bor h p _=>.bor h p false
 |.pre h p=>.bor h p false
 |q=>q
mutual
def DV.detop:DV→DV
 |.nil q=>.nil q.detop
 |.sl q r l=>.sl q.detop r l
 |.ep q r l j o=>.ep q.detop r l j o
 |.agg cs=>.agg (DV.detopL cs)
 |.tup vs=>.tup (DV.detopL vs)
 |v=>v
def DV.detopL:List DV→List DV
 |[]=>[]
 |v::r=>v.detop::DV.detopL r
end
mutual
def DV.hasPtr:DV→Bool
 |.ptr _ _=>true
 |.agg cs=>DV.hasPtrL cs
 |.tup vs=>DV.hasPtrL vs
 |_=>false
def DV.hasPtrL:List DV→Bool
 |[]=>false
 |v::r=>v.hasPtr||DV.hasPtrL r
end
mutual
def DV.deep:DV→Bool
 |.undef|.bool _|.int _ _|.str _|.ifc _=>true
 |.nil q=>q.own'
 |.sl q _ _=>q.own'
 |.agg cs=>DV.deepL cs
 |.tup vs=>DV.deepL vs
 |.ptr _ _=>true
 |_=>false
def DV.deepL:List DV→Bool
 |[]=>true
 |v::r=>v.deep&&DV.deepL r
end
def DV.cell:DV→Bool
 |.bool _|.int _ _|.str _|.ifc _=>true
 |.nil q=>(match q with|.own|.frz|.ownw _=>true|_=>false)
 |.sl q _ _=>(match q with|.own|.frz|.ownw _=>true|_=>false)
 |_=>false
def Cd:List DV→Bool
 |[]=>true
 |v::r=>v.cell&&Cd r
def DV.argc:DV→Bool
 |.bool _|.int _ _|.str _|.ifc _|.nil _|.sl _ _ _|.ptr _ _=>true
 |_=>false
def Qn:List DV→Bool
 |[]=>true
 |v::r=>v.argc&&Qn r
def DV.argok:DV→Bool
 |.agg cs=>Qn cs
 |v=>v.argc
def FE:List DV→Bool
 |[]=>true
 |v::r=>v.argok&&FE r
def DV.retc:DV→Bool
 |.ptr _ _=>true
 |v=>v.cell
def Gr:List DV→Bool
 |[]=>true
 |v::r=>v.retc&&Gr r
def DV.retok:DV→Bool
 |.agg cs=>Gr cs
 |v=>v.retc
def CT.flat:CT→Bool
 |.sl _=>false
 |_=>true
def RT.flat:RT→Bool
 |.one t=>t.flat
 |.cons t r=>t.flat&&r.flat
structure DC where
 d:Bool
 v:DV
structure DS where
 sl:List DC
 bx:List (List DC)
 hp:List (List DC)
def AR:List DC→Nat→DV
 |[],_=>.any
 |x::_,0=>x.v
 |_::r,n+1=>AR r n
def Ci:List DC→Nat→DV→List DC
 |[],_,_=>[]
 |_::r,0,v=>⟨true,v⟩::r
 |x::r,n+1,v=>x::Ci r n v
def A9:List (List DC)→Nat→List DC
 |[],_=>[]
 |x::_,0=>x
 |_::r,n+1=>A9 r n
def DR:List (List DC)→Nat→List DC→List (List DC)
 |[],_,_=>[]
 |_::r,0,v=>v::r
 |x::r,n+1,v=>x::DR r n v
def Gd:List DC→Nat→List DV→List DC
 |cs,_,[]=>cs
 |[],_,_::_=>[]
 |_::r,0,v::vs=>⟨true,v⟩::Gd r 0 vs
 |c::r,n+1,v::vs=>c::Gd r n (v::vs)
def Gc:List DV→Nat→List DV→List DV
 |cs,_,[]=>cs
 |[],_,_::_=>[]
 |_::r,0,v::vs=>v::Gc r 0 vs
 |c::r,n+1,v::vs=>c::Gc r n (v::vs)
def EN:List DV→Nat→DV
 |[],_=>.any
 |x::_,0=>x
 |_::r,n+1=>EN r n
def Ln:List DV→Nat→DV→List DV
 |[],_,_=>[]
 |_::r,0,v=>v::r
 |x::r,n+1,v=>x::Ln r n v
def Bp:List DV→Nat→Nat→List DV
 |_,0,0=>[]
 |[],_,_=>[]
 |c::r,0,n+1=>c::Bp r 0 n
 |_::r,o+1,n=>Bp r o n
def A4:List DC→List DV
 |[]=>[]
 |c::r=>c.v::A4 r
def news:List DV→List DC
 |[]=>[]
 |v::r=>⟨true,v⟩::news r
def Cj(hd:Hd):List DC→List DC
 |[]=>[]
 |c::r=>(if c.v.bor hd then ⟨true,.any⟩ else c)::Cj hd r
def DV.isBox(i:Nat):DV→Bool
 |.box j _=>i == j
 |_=>false
def LY(i:Nat):List DC→List DC
 |[]=>[]
 |c::r=>(if c.v.isBox i then ⟨true,.any⟩ else c)::LY i r
def Qu(live:List Nat):Nat→List DC→List DC
 |_,[]=>[]
 |n,c::r=>(if live.contains n then c else ⟨true,.any⟩)::Qu live (n+1) r
def clean:List DC→List DC
 |[]=>[]
 |c::r=>⟨false,c.v⟩::clean r
def K5:List (List DC)→List (List DC)
 |[]=>[]
 |b::r=>clean b::K5 r
def DS.clean(st:DS):DS:=⟨Go.Ag.clean st.sl,K5 st.bx,K5 st.hp⟩
def Ub:List DC→List PV
 |[]=>[]
 |c::r=>c.v.enc::Ub r
def T8:List (List DC)→List (List PV)
 |[]=>[]
 |b::r=>Ub b::T8 r
def DS.enc(st:DS):PS:=⟨Ub st.sl,T8 st.bx,T8 st.hp⟩
inductive PX where
 |tt|ff|p (h:Prop)|and (a b:PX)|ite (c:Bool) (a b:PX)
def PX.den:PX→Prop
 |.tt=>True
 |.ff=>False
 |.p h=>h
 |.and a b=>a.den∧b.den
 |.ite c a b=>(c=true→a.den)∧(c=false→b.den)
def PX.land:PX→PX→PX
 |.tt,b=>b
 |.ff,_=>.ff
 |a,.tt=>a
 |a,b=>.and a b
def PX.if' (c:Bool):PX→PX→PX
 |.tt,.tt=>.tt
 |a,b=>.ite c a b
def Gw:V→DV
 |.nils=>.nil .own
 |.tup []=>.tup []
 |.bool b=>.bool (.lit b)
 |.int k n=>.int k n
 |.str s=>.str s
 |.ifc b=>.ifc b
 |_=>.undef
def EO:List V→List DV
 |[]=>[]
 |v::r=>Gw v::EO r
def Opnd.dev(s:List DC):Opnd→DV
 |.t n=>AR s n
 |.c v=>Gw v
end
noncomputable section
mutual
def DV.ok:DV→Bool
 |.any=>false
 |.agg cs=>DV.okL cs
 |.tup vs=>DV.okL vs
 |_=>true
def DV.okL:List DV→Bool
 |[]=>true
 |v::r=>v.ok&&DV.okL r
end
def DS.put(st:DS)(d:Option Nat)(v:DV):DS:=
 match d with
 |none=>st
 |some d=>if v.own then { st with sl:=Cj (.s d) (Ci st.sl d v) } else { st with sl:=Ci st.sl d v }
def Nq(v:DV)(n:Nat)(st:DS):DV×DS:=if v.own then (if v.bor (.s n) then (.any,st) else (v,{ st with sl:=Cj (.s n) (Ci st.sl n .any) })) else (v,st)
def AG(x:Opnd)(st:DS):DV×DS:=match x with
 |.c v=>(Gw v,st)
 |.t n=>Nq (AR st.sl n) n st
def QF(v:DV)(n:Nat)(st:DS):DV×DS:=if v.own then (if v.retok then (v.fz,{ st with sl:=Cj (.s n) (Ci st.sl n v.fz) }) else (.any,st)) else (v,st)
def Jj(x:Opnd)(st:DS):DV×DS:=match x with
 |.c v=>(Gw v,st)
 |.t n=>QF (AR st.sl n) n st
def DV.fcell:DV→List Nat→DV
 |.agg cs,[c]=>EN cs c
 |.agg _,_=>.any
 |.tup vs,[i,c]=>EN (EN vs i).cells c
 |.tup _,_=>.any
 |v,[0]=>v
 |_,_=>.any
def DV.setc:DV→List Nat→DV→DV
 |.agg cs,[c],w=>.agg (Ln cs c w)
 |.agg cs,_,_=>.agg cs
 |.tup vs,_,_=>.tup vs
 |_,[0],w=>w
 |v,_,_=>v
def Bt(st:DS):Hd→List Nat→DV
 |.s t,p=>(AR st.sl t).fcell p
 |.b i,[c]=>AR (A9 st.bx i) c
 |.h i,[c]=>AR (A9 st.hp i) c
 |_,_=>.any
def EG(st:DS)(v:DV):Hd→List Nat→DS
 |.s t,p=>{ st with sl:=Cj (.s t) (Ci st.sl t ((AR st.sl t).setc p v)) }
 |.b i,[c]=>{ st with sl:=Cj (.b i) st.sl,bx:=DR st.bx i (Ci (A9 st.bx i) c v) }
 |.h i,[c]=>{ st with sl:=Cj (.h i) st.sl,hp:=DR st.hp i (Ci (A9 st.hp i) c v) }
 |_,_=>st
def Ql.brw(hd:Hd)(p:List Nat):Ql→Ql
 |.own=>.bor hd p true
 |.ownw _=>.pre hd p
 |q=>q
def TO(hd:Hd)(p:List Nat):DV→DV
 |.sl q r l=>.sl (q.brw hd p) r l
 |.nil q=>.nil (q.brw hd p)
 |v=>v
def Gt(hd:Hd):Nat→List DV→List DV
 |_,[]=>[]
 |c,v::r=>TO hd [c] v::Gt hd (c+1) r
def TS(hd:Hd):DV→DV
 |.agg cs=>.agg (Gt hd 0 cs)
 |.tup vs=>if DV.ownL vs then .undef else .tup vs
 |v=>TO hd [0] v
def Hj(x:Opnd)(st:DS):DV×DS:=match x with
 |.c v=>(Gw v,st)
 |.t n=>(TS (.s n) (AR st.sl n),st)
def Lm:Ql→Option Ql
 |.frz=>some .frz
 |.bor hd _ _=>some (.bor hd [] false)
 |.pre hd _=>some (.bor hd [] false)
 |_=>none
def Lg:List DV→List DV
 |[]=>[]
 |v::r=>(if v.own then .any else v)::Lg r
def DK(n:Option Nat)(cs:List DV):Option DV:=
 match n,cs with
 |some _,cs=>some (.agg cs)
 |none,[v]=>some v
 |none,_=>none
def FH(d:Nat):Option DV→Option (PX×Nat)
 |none=>some (.tt,d)
 |some (.int _ i)=>some (.p (0≤i),iNat i)
 |some _=>none
def Gv:List DV→List (Nat×Nat×Opnd)→DS→Option (List DV×DS)
 |cs,[],st=>some (cs,st)
 | cs,(off,size,x)::r,st=>
   if (AG x st).1.cells.length == size&&Nat.ble (off+size) cs.length&&Cd (AG x st).1.cells then Gv (Gc cs off (AG x st).1.cells) r (AG x st).2 else none
abbrev DO:=Option (PX×DV)
def DA(v:DV):DO:=some (.tt,v)
def dI(k:IntKind)(n:Int):DO:=some (.tt,.int k n)
def dB(b:Bool):DO:=some (.tt,.bool (.dyn b))
def Pz(op:BinOp)(k:IntKind)(a b:Int):DO:=
 match op with
 |.add=>dI k (iAdd k a b)
 |.sub=>dI k (iSub k a b)
 |.mul=>dI k (iMul k a b)
 |.quo=>some (.p (b≠0),.int k (iQuo k a b))
 |.rem=>some (.p (b≠0),.int k (iRem a b))
 |.and=>dI k (iAnd k a b)
 |.or=>dI k (iOr k a b)
 |.xor=>dI k (iXor k a b)
 |.andNot=>dI k (iAndNot k a b)
 |.eql=>dB (iEq a b)
 |.neq=>dB (iNe a b)
 |.lss=>dB (iLt a b)
 |.leq=>dB (iLe a b)
 |.gtr=>dB (iGt a b)
 |.geq=>dB (iGe a b)
 |_=>none
def Qc(op:BinOp)(k:IntKind)(a b:Int):DO:=
 match op with
 |.shl=>some (.p (0≤b),.int k (iShl k a b))
 |.shr=>some (.p (0≤b),.int k (iShr k a b))
 |_=>none
def IntKind.same(k k':IntKind):Bool:=decide (k=k')
def Lk(op:BinOp)(x y:DV):DO:=
 match x,y with
 | .int k a,.int k' b=>(match op with
   |.shl=>Qc .shl k a b
   |.shr=>Qc .shr k a b
   |op=>if IntKind.same k k' then Pz op k a b else none)
 | .str a,.str b=>(match op with
   |.add=>some (.p (a.length+b.length≤9223372036854775807),.str (sAdd a b))
   |.eql=>dB (sEq a b)
   |.neq=>dB (sNe a b)
   |_=>none)
 |_,_=>none
def BX.not:BX→BX
 |.lit b=>.lit (!b)
 |.dyn b=>.dyn (bNot b)
def BX.eq:BX→BX→BX
 |.lit a,.lit b=>.lit (a == b)
 |.lit true,.dyn b=>.dyn b
 |.lit false,.dyn b=>.dyn (bNot b)
 |.dyn a,.lit true=>.dyn a
 |.dyn a,.lit false=>.dyn (bNot a)
 |.dyn a,.dyn b=>.dyn (bIff a b)
def QC(neg:Bool):DV→DV→DO
 |.bool a,.bool b=>DA (.bool (if neg then (a.eq b).not else a.eq b))
 |_,_=>none
def Ud(neg:Bool):DV→DO
 |.ifc a=>dB (if neg then bNot a else a)
 |_=>none
def HQ:List DV→List DV→Option BX
 |[],[]=>some (.lit true)
 |.int k a::x,.int k' b::y=>if IntKind.same k k' then (match x,y with
  |[],[]=>some (.dyn (iEq a b))
  |x,y=>(HQ x y).map fun t=>.dyn (bAnd (iEq a b) t.b)) else none
 |_,_=>none
def QD(n:Nat)(neg:Bool):DV→DV→DO
 | .agg a,.agg b=>if a.length == n&&b.length == n then (match HQ a b with
   |some t=>DA (.bool (if neg then t.not else t))
   |none=>none) else none
 |_,_=>none
def Uh(op:UnOp)(x:DV):DO:=
 match op,x with
 |.not,.bool b=>DA (.bool b.not)
 |.neg,.int k n=>dI k (iNeg k n)
 |_,_=>none
def TZ(k:IntKind):DV→DO
 |.int _ n=>dI k (iConv k n)
 |_=>none
def Qe:(r:RT)→List r.D→Option (List UInt8)
 |.one (.int .u8),l=>some (rowS l)
 |_,_=>none
def T4:DV→DO
 |.nil _=>DA (.str [])
 |.sl _ r l=>(Qe r l).map fun s=>(.tt,.str s)
 |_=>none
def Zg(x:Opnd)(z:Bool)(q:Ql):Option Ql:=Dv x (if z then 0 else 1) q
def Tb(w:Nat)(x:Opnd)(lo hi:Option DV):DV→DO
 | .sl q r l=>(match FH 0 lo,FH (lN l) hi with
   | some (g,a),some (g',b)=>if r.w == w then (match Zg x lo.isNone q with
     |some q'=>some ((g.land g').land (.p (a≤b∧b≤l.length∧0<l.length)),.sl q' r (lSub l a b))
     |none=>none) else none
   |_,_=>none)
 |_=>none
def Sw(lo hi:Option DV):DV→DO
 | .str t=>(match FH 0 lo,FH (lN t) hi with
   |some (g,a),some (g',b)=>some ((g.land g').land (.p (a≤b∧b≤t.length)),.str (lSub t a b))
   |_,_=>none)
 |_=>none
def Tt:DV→DO
 |.box i o=>DA (.box i o)
 |.ptr i o=>DA (.ptr i o)
 |.ep q r l j o=>DA (.ep q r l j o)
 |_=>none
def Su(off:Nat):DV→DO
 |.box i o=>DA (.box i (o+off))
 |.ptr i o=>DA (.ptr i (o+off))
 |.ep q r l j o=>DA (.ep q r l j (o+off))
 |_=>none
def Ts(off:Nat)(n:Option Nat)(x:Opnd):DV→DO
 | .agg cs=>(match x with
   |.t t=>if Nat.ble (off+n.getD 1) cs.length&&DV.okL (Bp cs off (n.getD 1)) then (DK n (Gt (.s t) off (Bp cs off (n.getD 1)))).map fun v=>(.tt,v) else none
   |.c _=>none)
 |_=>none
def Mr(w:Nat)(x:Opnd):DV→DV→DO
 | .sl q r l,.int _ j=>if r.w == w then (match Dx x q with
   |some q'=>some (.p (0≤j∧j<l.length),.ep q' r l (iNat j) 0)
   |none=>none) else none
 |.nil _,.int _ _=>none
 |_,_=>none
def PR:DV→DV→DO
 |.str t,.int _ j=>some (.p (0≤j∧j<t.length),.int .u8 (sGet t j))
 |_,_=>none
def T9:DV→DO
 |.sl _ _ l=>dI .i64 (lLen l)
 |.nil _=>dI .i64 0
 |_=>none
def T1:DV→DO
 |.str t=>dI .i64 (lLen t)
 |_=>none
def Ua:DV→DV→DO
 |.int .i64 a,.int .i64 b=>dI .i64 (iMin a b)
 |_,_=>none
def Ue:DV→DV→DO
 |.int .i64 a,.int .i64 b=>dI .i64 (iMax a b)
 |_,_=>none
abbrev C5:=Option (PX×DV×DS)
def Jh(m:Bool)(i:Nat)(n:Option Nat)(a:DV)(st:DS):C5:=
 match a with
 | .box j o=>
   let cs:=Bp (A4 (A9 st.bx i)) o (n.getD 1)
   if i == j&&Nat.ble (o+n.getD 1) (A9 st.bx i).length&&DV.okL cs then
    if m then (DK n cs).map fun v=>(.tt,v,{ st with sl:=Cj (.b i) st.sl,bx:=DR st.bx i (Gd (A9 st.bx i) o (Lg cs)) })
    else (DK n (Gt (.b i) o cs)).map fun v=>(.tt,v,st)
   else none
 |_=>none
def Ia(m:Bool)(n:Option Nat)(a:DV)(st:DS):C5:=
 match a with
 | .ptr i o=>
   let cs:=Bp (A4 (A9 st.hp i)) o (n.getD 1)
   if Nat.blt i st.hp.length&&Nat.ble (o+n.getD 1) (A9 st.hp i).length&&DV.okL cs then
    if m then (DK n cs).map fun v=>(.tt,v,{ st with sl:=Cj (.h i) st.sl,hp:=DR st.hp i (Gd (A9 st.hp i) o (Lg cs)) })
    else (DK n (Gt (.h i) o cs)).map fun v=>(.tt,v,st)
   else none
 | .ep q r l j o=>(match Lm q with
   |some q'=>if Nat.ble (o+n.getD 1) r.w then (DK n (Bp (r.dv q' (lGet l j r.dflt)) o (n.getD 1))).map fun v=>(.p (j<l.length),v,st) else none
   |none=>none)
 |_=>none
def Mx(i n:Nat)(a x:Opnd)(st0:DS):C5:=
 match AG x st0 with
 | (v, st)=>match a.dev st0.sl with
   |.box j o=>if i == j&&Nat.blt i st.bx.length&&v.cells.length == n&&Nat.ble (o+n) (A9 st.bx i).length&&Cd v.cells then
    some (.tt,.undef,{ st with sl:=if (!DV.okL (Bp (A4 (A9 st.bx i)) o n))||DV.ownL (Bp (A4 (A9 st.bx i)) o n)||v.own then Cj (.b i) st.sl else st.sl,bx:=DR st.bx i (Gd (A9 st.bx i) o v.cells) }) else none
   |_=>none
def My(n:Nat)(a x:Opnd)(st0:DS):C5:=
 match AG x st0 with
 | (v, st)=>match a.dev st.sl with
   |.ptr i o=>if Nat.blt i st.hp.length&&v.cells.length == n&&Nat.ble (o+n) (A9 st.hp i).length&&Cd v.cells then
    some (.tt,.undef,{ st with sl:=if (!DV.okL (Bp (A4 (A9 st.hp i)) o n))||DV.ownL (Bp (A4 (A9 st.hp i)) o n)||v.own then Cj (.h i) st.sl else st.sl,hp:=DR st.hp i (Gd (A9 st.hp i) o v.cells) }) else none
   | .ep (.bor hd [p] true) _ _ j o=>(match Bt st hd [p] with
     | .sl .own r l=>if v.cells.length == n&&Nat.ble (o+n) r.w&&Cd v.cells then (match r.of (Gc (r.dv .own (lGet l j r.dflt)) o v.cells) with
       |some y=>some (.p (j<l.length),.undef,EG st (.sl .own r (lSet l j y)) hd [p])
       |none=>none) else none
     |_=>none)
   |_=>none
def Gi(m:Bool)(n:Option Nat)(a:DV)(st:DS):Option C5:=
 match m,n,a with
 | true,none,.ep (.bor hd [c] true) (.one (.sl _)) l j 0=>some (match Bt st hd [c] with
   |.sl .own (.one (.sl r)) l2=>some (.p (j<l.length∧j<l2.length),.sl (.bor hd [c,j] true) r (lGet (α:=List r.D) l2 j []),st)
   |_=>none)
 |_,_,_=>none
def DV.nestX(i c:Nat):DV→Bool
 |.ep (.bor (.b i') [c'] true) _ _ _ _=>i == i'&&c == c'
 |_=>false
def DV.nest:DV→Option (Hd×Nat×Nat×Nat×Nat)
 |.ep (.bor hd [p,k] true) _ _ j o=>some (hd,p,k,j,o)
 |_=>none
def DV.nflat:DV→Bool
 |.bool _|.int _ _|.str _|.ifc _=>true
 |_=>false
def Jb:List DV→Bool
 |[]=>true
 |v::r=>v.nflat&&Jb r
def MA(n:Nat)(hd:Hd)(p k j o:Nat)(v:DV)(st:DS):C5:=
 match Bt st hd [p] with
 | .sl .own (.one (.sl r)) l=>if v.cells.length == n&&Nat.ble (o+n) r.w&&Jb v.cells then (match r.of (Gc (r.dv .own (lGet (lGet (α:=List r.D) l k []) j r.dflt)) o v.cells) with
   |some y=>some (.p (k<l.length∧j<(lGet (α:=List r.D) l k []).length),.undef,EG st (.sl .own (.one (.sl r)) (lSet (α:=List r.D) l k (lSet (lGet (α:=List r.D) l k []) j y))) hd [p])
   |none=>none) else none
 |_=>none
inductive DSrc where
 |nil
 |sl (r:RT) (l:List r.D)
def DSrc.w:DSrc→Nat→Bool
 |.nil,_=>true
 |.sl r _,w=>r.w == w
def DSrc.to(r:RT):DSrc→Option (List r.D)
 |.nil=>some []
 |.sl _ l=>Jw l
def GD(w:Nat)(y:Opnd)(st:DS):Option (DSrc×DS):=
 match y.dev st.sl with
 |.str s=>if w == 1 then some (.sl (.one (.int .u8)) (sRow s),st) else none
 |.sl .own r l=>if r.w == w then some (.sl r l,(AG y st).2) else none
 |.sl (.ownw _) _ _=>none
 |.sl _ r l=>if r.w == w&&r.flat then some (.sl r l,st) else none
 |.nil .own=>some (.nil,(AG y st).2)
 |.nil _=>some (.nil,st)
 |_=>none
def Lp(w:Nat)(x:Opnd)(new:DSrc)(st:DS):C5:=
 if !(Nat.blt 0 w&&new.w w) then none else
 match x.dev st.sl with
 | .nil .own=>(match new with
   |.nil=>some (.tt,.nil .own,(AG x st).2)
   |.sl r l=>some (.p (AW (l.length*w)),.sl .own r l,(AG x st).2))
 | .sl .own r l=>if r.w == w then (match new.to r with
   |some n=>some (.p (AW ((l.length+n.length)*w)),.sl .own r (lApp l n),(AG x st).2)
   |none=>none) else none
 | .sl (.bor hd [c] true) r l=>(match Bt st hd [c] with
   | .sl .own rh lh=>if rh.w == w then (match new.to rh with
     |some n=>some (.p (l.length=lh.length∧AW ((lh.length+n.length)*w)),.sl .own rh (lApp lh n),EG st .undef hd [c])
     |none=>none) else none
   |_=>none)
 | .nil (.bor hd [c] true)=>(match Bt st hd [c] with
   | .nil .own=>(match new with
     |.nil=>some (.tt,.nil .own,EG st .undef hd [c])
     |.sl r l=>some (.p (AW (l.length*w)),.sl .own r l,EG st .undef hd [c]))
   |_=>none)
 | .sl (.pre hd [c]) r l=>(match Bt st hd [c] with
   | .sl .own rh lh=>if rh.w == w then (match new.to rh with
     |some n=>some (.p (0<lh.length∧l.length≤lh.length∧0<l.length+n.length∧AW ((l.length+n.length)*w)),.sl .own rh (lApp (lTake lh (lN l)) n),EG st .undef hd [c])
     |none=>none) else none
   |_=>none)
 |_=>none
def Iq(w:Nat)(new:DSrc)(st:DS):C5:=
 match new with
 |.nil=>some (.tt,.nil (.ownw w),st)
 |.sl r l=>some (.p (AW (l.length*w)),.sl (.ownw w) r l,st)
def M5(w:Nat)(x:Opnd)(new:DSrc)(st:DS):C5:=
 if !(Nat.blt 0 w&&new.w w) then none else
 match x.dev st.sl with
 |.nil .own=>Iq w new (AG x st).2
 |.nil (.ownw w')=>if w' == w then Iq w new (AG x st).2 else none
 | .sl .own r l=>if r.w == w then (match new.to r with
   |some n=>some (.p (AW ((l.length+n.length)*w)),.sl (.ownw w) r (lApp l n),(AG x st).2)
   |none=>none) else none
 | .sl (.ownw w') r l=>if w' == w&&r.w == w then (match new.to r with
   |some n=>some (.p (AW ((l.length+n.length)*w)),.sl (.ownw w) r (lApp l n),(AG x st).2)
   |none=>none) else none
 | .sl (.pre hd [c]) r l=>(match Bt st hd [c] with
   | .sl .own rh lh=>if rh.w == w then (match new.to rh with
     |some n=>some (.p (0<lh.length∧l.length≤lh.length∧AW ((l.length+n.length)*w)),.sl (.ownw w) rh (lApp (lTake lh (lN l)) n),EG st .undef hd [c])
     |none=>none) else none
   | .sl (.ownw w') rh lh=>if w' == w&&rh.w == w then (match new.to rh with
     |some n=>some (.p (0<lh.length∧l.length≤lh.length∧AW ((l.length+n.length)*w)),.sl (.ownw w) rh (lApp (lTake lh (lN l)) n),EG st .undef hd [c])
     |none=>none) else none
   |_=>none)
 |_=>none
def Nr(w:Nat):DV→Option DV
 |.nil .own=>some (.nil (.ownw w))
 |.nil (.ownw w')=>if w' == w then some (.nil (.ownw w)) else none
 |.sl .own r l=>if r.w == w then some (.sl (.ownw w) r l) else none
 |.sl (.ownw w') r l=>if w' == w then some (.sl (.ownw w) r l) else none
 |_=>none
def Qz:List (Nat×Nat)→List DV→Option (List DV)
 |[],l=>some l
 | (c,w)::r,l=>match Nr w (EN l c) with
   |some v=>Qz r (Ln l c v)
   |none=>none
def JJ(ws:List (Nat×Nat)):DV→Option DV
 |.agg l=>(Qz ws l).map .agg
 | .nil q=>(match ws with
   |[(0,w)]=>Nr w (.nil q)
   |_=>none)
 | .sl q r l=>(match ws with
   |[(0,w)]=>Nr w (.sl q r l)
   |_=>none)
 |_=>none
def KH(r:RT)(w:Nat):Nat→List DV→Option (List r.D)
 |0,_=>some []
 | n+1,cs=>(match r.of (cs.take w),KH r w n (cs.drop w) with
   |some x,some l=>some (x::l)
   |_,_=>none)
def E6:List V→Bool
 |[]=>true
 |v::r=>v.flat&&E6 r
def Lc(o:AOp)(e:Opnd→DV):DO:=
 match o with
 |.nilck x=>Tt (e x)
 |.bin op x y=>Lk op (e x) (e y)
 |.eqB neg x y=>QC neg (e x) (e y)
 |.eqN neg x y=>(match y with|.c (.ifc true)=>Ud neg (e x)|_=>none)
 |.eqA n neg x y=>QD n neg (e x) (e y)
 |.un op x=>Uh op (e x)
 |.conv k x=>TZ k (e x)
 |.bstr x=>T4 (e x)
 |.slice w x lo hi=>Tb w x (lo.map e) (hi.map e) (e x)
 |.substr x lo hi=>Sw (lo.map e) (hi.map e) (e x)
 |.fieldA off a=>Su off (e a)
 |.field off n x=>Ts off n x (e x)
 |.indexA w x i=>Mr w x (e x) (e i)
 |.index x i=>PR (e x) (e i)
 |.len x=>T9 (e x)
 |.lenT x=>T1 (e x)
 |.minI x y=>Ua (e x) (e y)
 |.maxI x y=>Ue (e x) (e y)
 |_=>none
def A3 (m:Bool)(o:AOp)(ty:Option RT)(st:DS):C5:=
 let e (x:Opnd):=x.dev st.sl
 let known (r:DV×DS):C5:=if r.1.ok then some (.tt,r.1,r.2) else none
 match o with
 |.mv x=>known (if m then Hj x st else AG x st)
 |.allocB i zs=>if Nat.blt i st.bx.length&&E6 zs then some (.tt,.box i 0,{ st with sl:=Cj (.b i) (LY i st.sl),bx:=DR st.bx i (news (EO zs)) }) else none
 | .boxB i n x=>(match AG x st with
   |(v,st)=>if Nat.blt i st.bx.length&&v.cells.length == n&&Cd v.cells then some (.tt,.box i 0,{ st with sl:=Cj (.b i) (LY i st.sl),bx:=DR st.bx i (news v.cells) }) else none)
 |.allocH zs=>if E6 zs then some (.tt,.ptr st.hp.length 0,{ st with sl:=Cj (.h st.hp.length) st.sl,hp:=st.hp++[news (EO zs)] }) else none
 | .boxH n x=>(match AG x st with
   |(v,st)=>if v.cells.length == n&&Cd v.cells then some (.tt,.ptr st.hp.length 0,{ st with sl:=Cj (.h st.hp.length) st.sl,hp:=st.hp++[news v.cells] }) else none)
 | .build zs ps=>if E6 zs then (match Gv (EO zs) ps st with
   |some (cs,st)=>some (.tt,.agg cs,st)
   |none=>none) else none
 | .mkSlice w z len=>(match e len with
   | .int .i64 n=>(match (match ty with|some r=>some r|none=>Ui (EO z)) with
     | some r=>(match r.of (EO z) with
       |some d=>if z.length == w&&r.w == w&&Nat.blt 0 w&&E6 z then some (.p (0≤n∧AW (n.toNat*w)),.sl .own r (lRep n d),st) else none
       |none=>none)
     |none=>none)
   |_=>none)
 | .litSlice w n zs ps=>
   if n == 0 then some (.tt,(match ty with|some r=>.sl .own r []|none=>.nil .own),st)
   else if E6 zs&&zs.length == n*w&&Nat.blt 0 w then (match Gv (EO zs) ps st with
    | some (cs,st)=>(match (match ty with|some r=>some r|none=>Ui (cs.take w)) with
      | some r=>if r.w == w then (match KH r w n cs with
        |some l=>some (.tt,.sl .own r l,st)
        |none=>none) else none
      |none=>none)
    |none=>none)
   else none
 |.loadB i n a=>Jh m i n (e a) st
 | .loadH n a=>(match Gi m n (e a) st with
   |some r=>r
   |none=>Ia m n (e a) st)
 | .loadX i c n a=>if (e a).nestX i c then (match Gi m n (e a) st with
   |some r=>r
   |none=>none) else none
 |.storeB i n a x=>Mx i n a x st
 | .storeH n a x=>if (e a).ok then (match (e a).nest with
   |some (hd,p,k,j,o)=>MA n hd p k j o (e x) st
   |none=>My n a x st) else none
 | .app w x y=>(match GD w y st with
   |some (new,st)=>Lp w x new st
   |none=>none)
 | .appN w x y=>(match x.dev st.sl with
   | .nil .own=>(match GD w y st with
     |some (new,st)=>Lp w x new st
     |none=>none)
   |_=>none)
 | .extract x i=>(match x with
   | .t t=>(match AR st.sl t with
     |.tup vs=>if Nat.blt i vs.length&&(EN vs i).ok then (if (EN vs i).own then (if (EN vs i).bor (.s t) then none else some (.tt,EN vs i,{ st with sl:=Cj (.s t) (Ci st.sl t (.tup (Ln vs i .undef))) })) else some (.tt,EN vs i,st)) else none
     |_=>none)
   |.c _=>none)
 |.pick ..=>none
 |.callB ..=>none
 |o=>(Lc o e).map fun r=>(r.1,r.2,st)
def Ja(ws:List (Nat×Nat))(m:Bool)(o:AOp)(ty:Option RT)(st:DS):C5:=
 match o with
 | .app w x y=>(match ws with
   | [(0,w')]=>if w' == w then (match GD w y st with
     |some (new,st)=>M5 w x new st
     |none=>none) else none
   |_=>none)
 | o => (match A3 m o ty st with
   | some (g,v,st)=>(match JJ ws v with
     |some v=>some (g,v,st)
     |none=>none)
   |none=>none)
end
noncomputable section
def QE(c:Bool):BX→BX→BX
 |.lit true,.lit true=>.lit true
 |.lit false,.lit false=>.lit false
 |.lit true,.lit false=>.dyn c
 |.lit false,.lit true=>.dyn (bNot c)
 |.lit true,.dyn y=>.dyn (bOr c y)
 |.lit false,.dyn y=>.dyn (bAnd (bNot c) y)
 |.dyn x,.lit true=>.dyn (bOr (bNot c) x)
 |.dyn x,.lit false=>.dyn (bAnd c x)
 |.dyn x,.dyn y=>.dyn (bSel c x y)
def Di(q q':Ql):Bool:=decide (q=q')
mutual
def Ca(c:Bool):DV→DV→DV
 |.undef,.undef=>.undef
 |.bool x,.bool y=>.bool (QE c x y)
 |.int k x,.int k' y=>if IntKind.same k k' then .int k (bSel c x y) else .any
 |.str x,.str y=>.str (bSel c x y)
 |.ifc x,.ifc y=>.ifc (bSel c x y)
 |.nil q,.nil q'=>if Di q q' then .nil q else .any
 |.nil q,.sl q' r l=>if Di q q' then .sl q r (bSel c [] l) else .any
 |.sl q r l,.nil q'=>if Di q q' then .sl q r (bSel c l []) else .any
 | .sl q r l,.sl q' r' l'=>if Di q q' then (match Jw (r':=r') (r:=r) l' with
   |some l'=>.sl q r (bSel c l l')
   |none=>.any) else .any
 |.box i o,.box i' o'=>if i == i'&&o == o' then .box i o else .any
 |.ptr i o,.ptr i' o'=>if i == i'&&o == o' then .ptr i o else .any
 |.agg x,.agg y=>if x.length == y.length&&DV.okL (Hm c x y) then .agg (Hm c x y) else .any
 |.tup x,.tup y=>if x.length == y.length&&DV.okL (Hm c x y) then .tup (Hm c x y) else .any
 |_,_=>.any
def Hm(c:Bool):List DV→List DV→List DV
 |x::a,y::b=>Ca c x y::Hm c a b
 |_,_=>[]
end
def QB(c:Bool)(x y:DC):DC:=if x.d||y.d then ⟨true,Ca c x.v y.v⟩ else x
def M6(c:Bool):List DC→List DC→List DC
 |x::a,y::b=>QB c x y::M6 c a b
 |_,_=>[]
def Nh(c:Bool):List (List DC)→List (List DC)→List (List DC)
 |x::a,y::b=>(if x.length == y.length then M6 c x y else [])::Nh c a b
 |_,_=>[]
def JE(c:Bool)(x y:DS):Option DS:=
 if x.sl.length == y.sl.length&&x.bx.length == y.bx.length&&x.hp.length == y.hp.length then some ⟨M6 c x.sl y.sl,Nh c x.bx y.bx,Nh c x.hp y.hp⟩ else none
def Lo:List DC→List DC→List DC
 |x::a,y::b=>⟨x.d||y.d,y.v⟩::Lo a b
 |_,r=>r
def Nv:List (List DC)→List (List DC)→List (List DC)
 |x::a,y::b=>Lo x y::Nv a b
 |_,r=>r
def Iv(x y:DS):DS:=⟨Lo x.sl y.sl,Nv x.bx y.bx,Nv x.hp y.hp⟩
inductive DT where
 |leaf (e:AExit) (st:DS)
 |node (c:Bool) (a b:DT)
 |chk (g:PX) (t:DT)
 |bad
inductive NS where
 |none|some (st:DS)|fail
def DT.norm:DT→NS
 |.leaf .normal st=>.some st
 |.leaf _ _=>.none
 | .node c a b=>(match a.norm,b.norm with
   |.none,y=>y
   |x,.none=>x
   | .some x,.some y=>(match JE c x y with
     |some z=>.some z
     |none=>.fail)
   |_,_=>.fail)
 |.chk _ t=>t.norm
 |.bad=>.none
def DT.nn:DT→Nat
 |.leaf .normal _=>1
 |.node _ a b=>a.nn+b.nn
 |.chk _ t=>t.nn
 |_=>0
def DT.cont:DT→Option BX
 |.leaf .normal _=>some (.lit true)
 |.leaf _ _=>some (.lit false)
 | .node c a b=>(match a.cont,b.cont with
   |none,y=>y
   |x,none=>x
   |some x,some y=>some (QE c x y))
 |.chk _ t=>t.cont
 |.bad=>none
def DT.ok:DT→PX
 |.leaf _ _=>.tt
 |.node c a b=>PX.if' c a.ok b.ok
 |.chk g t=>g.land t.ok
 |.bad=>.ff
def DT.nodeB(c:Bool):DT→DT→DT
 |.bad,b=>b
 |a,.bad=>a
 |a,b=>.node c a b
def DT.drop:DT→DT
 |.leaf .normal _=>.bad
 |.leaf e st=>.leaf e st
 |.node c a b=>DT.nodeB c a.drop b.drop
 |.chk _ t=>t.drop
 |.bad=>.bad
def DT.map(f:DS→DS):DT→DT
 |.leaf e st=>.leaf e (f st)
 |.node c a b=>.node c (a.map f) (b.map f)
 |.chk g t=>.chk g (t.map f)
 |.bad=>.bad
def DT.bind(f:DS→DT)(h:DS→DS):DT→DT
 |.leaf .normal st=>f st
 |.leaf e st=>.leaf e (h st)
 |.node c a b=>.node c (a.bind f h) (b.bind f h)
 |.chk g t=>.chk g (t.bind f h)
 |.bad=>.bad
def DT.unexit(i:Nat):DT→DT
 |.leaf (.exit j) st=>if j == i then .leaf .normal st else .leaf (.exit j) st
 |.leaf e st=>.leaf e st
 |.node c a b=>.node c (a.unexit i) (b.unexit i)
 |.chk g t=>.chk g (t.unexit i)
 |.bad=>.bad
def DT.chk':PX→DT→DT
 |.tt,t=>t
 |g,t=>.chk g t
def DT.then(f:DS→DT)(h:DS→DS)(t:DT):DT:=
 if Nat.ble t.nn 1 then t.bind f h
 else match t.norm with
  | .some m=>DT.chk' t.ok (match t.cont with
    |some (.dyn c)=>.node c (f m) (t.drop.map h)
    |some (.lit true)=>f m
    |_=>.bad)
  |_=>t.bind f h
section
variable {X:Type}
inductive LoopTo (c:X→Bool) (f:X→X) (p:X→Prop):X→X→Prop
 |stop {x:X}:p x→c x=false→LoopTo c f p x x
 |go {x y:X}:p x→c x=true→LoopTo c f p (f x) y→LoopTo c f p x y
def LoopOk(c:X→Bool)(f:X→X)(p:X→Prop)(x:X):Prop:=∃ y,LoopTo c f p x y
open Classical in
def AN(c:X→Bool)(f:X→X)(x:X):X:=if h:∃ y,LoopTo c f (fun _=>True) x y then Classical.choose h else x
theorem LoopTo.fst{c:X→Bool}{f:X→X}{p q:X→Prop}{x y z:X}(h:LoopTo c f p x y)(h':LoopTo c f q x z):y=z:=by
 induction h with
 | stop _ h1=>
   cases h' with
   |stop=>rfl
   |go _ h2=>rw[h1] at h2;cases h2
 | go _ h1 _ ih=>
   cases h' with
   |stop _ h2=>rw[h1] at h2;cases h2
   |go _ _ h3=>exact ih h3
theorem LoopTo.mono{c:X→Bool}{f:X→X}{p q:X→Prop}(hp:∀ x,p x→q x){x y:X}(h:LoopTo c f p x y):LoopTo c f q x y:=by
 induction h with
 |stop h0 h1=>exact .stop (hp _ h0) h1
 |go h0 h1 _ ih=>exact .go (hp _ h0) h1 ih
theorem LoopTo.val{c:X→Bool}{f:X→X}{p:X→Prop}{x y:X}(h:LoopTo c f p x y):AN c f x=y:=by
 have h':∃ y,LoopTo c f (fun _=>True) x y:=⟨y,h.mono fun _ _=>trivial⟩;unfold AN;rw[dif_pos h'];exact(Classical.choose_spec h').fst h
theorem LoopOk.to{c:X→Bool}{f:X→X}{p:X→Prop}{x:X}(h:LoopOk c f p x):LoopTo c f p x (AN c f x):=by
 obtain⟨y,h⟩:=h;rw[h.val];exact h
end
inductive Pl where
 |s (i:Nat)|b (i c:Nat)|h (i c:Nat)
inductive HT where
 |one (q:Ql) (t:CT)|agg (l:List (Ql×CT))
structure Hole where
 pl:Pl
 t:HT
def AgX:List (Ql×CT)→Type
 |[]=>Unit
 |[a]=>a.2.D
 |a::r=>a.2.D×AgX r
def HT.D:HT→Type
 |.one _ t=>t.D
 |.agg l=>AgX l
def Fp:List Hole→Type
 |[]=>Unit
 |[a]=>a.t.D
 |a::r=>a.t.D×Fp r
def DS.at(st:DS):Pl→DV
 |.s i=>AR st.sl i
 |.b i c=>AR (A9 st.bx i) c
 |.h i c=>AR (A9 st.hp i) c
def DS.wr(st:DS)(v:DV):Pl→DS
 |.s i=>{ st with sl:=Ci st.sl i v }
 |.b i c=>{ st with bx:=DR st.bx i (Ci (A9 st.bx i) c v) }
 |.h i c=>{ st with hp:=DR st.hp i (Ci (A9 st.hp i) c v) }
def CT.ofQ(q:Ql):(t:CT)→DV→Option t.D
 |.int k,.int k' n=>if IntKind.same k k' then some n else none
 |.bool,.bool b=>some b.b
 |.str,.str s=>some s
 |.ifc,.ifc b=>some b
 |.sl r,.nil q'=>if Di q q' then some ([]:List r.D) else none
 |.sl r,.sl q' r' l=>if Di q q' then Jw (r':=r') (r:=r) l else none
 |_,_=>none
def Dw:(l:List (Ql×CT))→List DV→Option (AgX l)
 |[],[]=>some ()
 |[a],[v]=>a.2.ofQ a.1 v
 | a::b::r,v::vs=>(match a.2.ofQ a.1 v,Dw (b::r) vs with
   |some x,some y=>some (x,y)
   |_,_=>none)
 |_,_=>none
def BU:(l:List (Ql×CT))→AgX l→List DV
 |[],_=>[]
 |[a],x=>[a.2.dv a.1 x]
 |a::b::r,x=>a.2.dv a.1 x.1::BU (b::r) x.2
def HT.of:(h:HT)→DV→Option h.D
 |.one q t,v=>t.ofQ q v
 |.agg l,.agg vs=>Dw l vs
 |.agg _,_=>none
def HT.dv:(h:HT)→h.D→DV
 |.one q t,x=>t.dv q x
 |.agg l,x=>.agg (BU l x)
def Iy(st:DS):(H:List Hole)→Option (Fp H)
 |[]=>some ()
 |[a]=>a.t.of (st.at a.pl)
 | a::b::r=>(match a.t.of (st.at a.pl),Iy st (b::r) with
   |some x,some y=>some (x,y)
   |_,_=>none)
def wrX(st:DS):(H:List Hole)→Fp H→DS
 |[],_=>st
 |[a],x=>st.wr (a.t.dv x) a.pl
 |a::b::r,x=>wrX (st.wr (a.t.dv x.1) a.pl) (b::r) x.2
def DV.same:DV→DV→Bool
 |.undef,.undef=>true
 |.nil q,.nil q'=>Di q q'
 |.box i o,.box i' o'=>i == i'&&o == o'
 |.ptr i o,.ptr i' o'=>i == i'&&o == o'
 |_,_=>false
def DV.isAny:DV→Bool
 |.any=>true
 |_=>false
inductive Cls where
 |left|hole (t:HT)|kill
def Zj:DV→DV→Option (Ql×CT)
 |.int k _,.int k' _=>if IntKind.same k k' then some (.own,.int k) else none
 |.bool _,.bool _=>some (.own,.bool)
 |.str _,.str _=>some (.own,.str)
 |.ifc _,.ifc _=>some (.own,.ifc)
 |.nil q,.sl q' r _=>if Di q q' then some (q,.sl r) else none
 |.sl q r _,.nil q'=>if Di q q' then some (q,.sl r) else none
 |.sl q r _,.sl q' r' _=>if Di q q'&&RT.beq r' r then some (q,.sl r) else none
 |_,_=>none
def Zk:List DV→List DV→Option (List (Ql×CT))
 |[],[]=>some []
 | x::a,y::b=>(match Zj x y,Zk a b with
   |some t,some l=>some (t::l)
   |_,_=>none)
 |_,_=>none
def Zp(x:DV)(y:DC):Cls:=
 if y.d then (if x.isAny||x.same y.v then .left else match x,y.v with
  | .agg a,.agg b=>(match Zk a b with
    |some l=>.hole (.agg l)
    |none=>.kill)
  | x,y=>(match Zj x y with
    |some t=>.hole (.one t.1 t.2)
    |none=>.kill)) else .left
def Hr(pl:Nat→Pl):Nat→List DC→List DC→List Hole×List DC
 | n,x::a,y::b=>(match Zp x.v y,Hr pl (n+1) a b with
   |.left,(H,l)=>(H,x::l)
   |.hole t,(H,l)=>(⟨pl n,t⟩::H,⟨true,.any⟩::l)
   |.kill,(H,l)=>(H,⟨true,.any⟩::l))
 |_,a,_=>([],a)
def Jz(pl:Nat→Nat→Pl):Nat→List (List DC)→List (List DC)→List Hole×List (List DC)
 | n,x::a,y::b=>(match Jz pl (n+1) a b with
   |(H,l)=>if x.length == y.length then (match Hr (pl n) 0 x y with|(H',x')=>(H'++H,x'::l)) else (H,[]::l))
 |_,a,_=>([],a)
def Ny(x y:DS):List Hole×DS:=
 match Hr .s 0 x.sl y.sl,Jz .b 0 x.bx y.bx,Jz .h 0 x.hp y.hp with
 |(H1,s),(H2,b),(H3,h)=>(H1++H2++H3,⟨s,b,h⟩)
def Nw:List DC→List DC→Bool
 |k::a,y::b=>(k.v.isAny||!y.d||k.v.same y.v)&&Nw a b
 |[],[]=>true
 |_,_=>false
def Nt:List (List DC)→List (List DC)→Bool
 |k::a,y::b=>(k.length == 0||Nw k y)&&Nt a b
 |[],[]=>true
 |_,_=>false
def Uf(K y:DS):Bool:=Nw K.sl y.sl&&Nt K.bx y.bx&&Nt K.hp y.hp
def Ks(K:DS):List Hole→Bool
 |[]=>true
 |a::r=>(K.at a.pl).isAny&&Ks K r
def DV.top:DV→Bool
 |.sl (.bor _ _ t) _ _=>t
 |.sl (.pre _ _) _ _=>true
 |.nil (.bor _ _ t)=>t
 |.nil (.pre _ _)=>true
 |.ep (.bor _ _ t) _ _ _ _=>t
 |.ep (.pre _ _) _ _ _ _=>true
 |.agg _=>true
 |.tup _=>true
 |_=>false
mutual
def DV.hasTop:DV→Bool
 |.agg cs=>DV.hasTopL cs
 |.tup cs=>DV.hasTopL cs
 |v=>v.top
def DV.hasTopL:List DV→Bool
 |[]=>false
 |v::r=>v.hasTop||DV.hasTopL r
end
def P6 (live:List Nat):Nat→List DC→List DC
 |_,[]=>[]
 |n,c::r=>(if live.contains n then (if c.v.hasTop then ⟨true,c.v.detop⟩ else c) else ⟨true,.any⟩)::P6 live (n+1) r
def CL(live:List Nat)(st:DS):DS:={ st with sl:=P6 live 0 st.sl }
def Qq(live:List Nat)(st:DS):DS:={ st with sl:=Qu live 0 st.sl }
def M9(live:List Nat)(body:DS→DT)(A:DS):Nat→DS→Option (List Hole×DS)
 | 0,cur=>(match (body cur).norm with
   |.some m=>some (Ny A (CL live m))
   |_=>none)
 | n + 1,cur=>(match (body cur).norm with
   | .some m=>(match Ny A (CL live m) with
     | (H,K)=>(match Iy A H with
       |some x0=>M9 live body A n (wrX K H x0)
       |none=>none))
   |_=>none)
def NS.isNone:NS→Bool
 |.none=>true
 |_=>false
section
variable (live:List Nat) (body:DS→DT) (K:DS) (H:List Hole)
def lT(x:Fp H):DT:=body (wrX K H x)
def Lb(x:Fp H):Bool:=match (lT body K H x).cont with|some b=>b.b|none=>false
def K7(x:Fp H):Fp H:=match (lT body K H x).norm with
 |.some m=>(match Iy (CL live m) H with|some y=>y|none=>x)
 |_=>x
def Y4(x:Fp H):PX:=(lT body K H x).ok.land (match (lT body K H x).norm with
 |.some m=>if Uf K (CL live m)&&(Iy (CL live m) H).isSome then .tt else .ff
 |.none=>.tt
 |.fail=>.ff)
end
def K9 (live:List Nat)(n:Nat)(body:DS→DT)(st:DS):DT:=
 if (body (CL live st)).norm.isNone then (body (CL live st)).map (Iv (CL live st))
 else match M9 live body (CL live st) n (CL live st) with
 |none=>.bad
 | some (H,K)=>(match Iy (CL live st) H with
   |none=>.bad
   | some x0=>if Ks K H then
      .chk (.p (LoopOk (Lb body K H) (K7 live body K H) (fun x=>(Y4 live body K H x).den) x0))
       ((lT body K H (AN (Lb body K H) (K7 live body K H) x0)).drop.map (Iv (wrX K H (AN (Lb body K H) (K7 live body K H) x0))))
     else .bad)
abbrev ER:=List DV→Option (PX×DV)
abbrev Cs:=List DV→List (List DV)→Option (PX×DV×List (List DV))
structure DMk where
 r:RT
 agg:Bool
 ok:r.D→Prop
 g:r.D→Int→r.D×Int
 vd:Bool
def DMk.P(M:DMk):PMk:=⟨M.agg,fun AD m K=>∃ x,AD=M.r.enc x∧M.ok x∧K (M.r.enc (M.g x m).1) (M.g x m).2,M.vd⟩
inductive DOp where
 |a (m:Bool) (o:AOp) (ty:Option RT)
 |aw (ws:List (Nat×Nat)) (m:Bool) (o:AOp) (ty:Option RT)
 |call (m:Bool) (f:AE) (p:Bj) (D:ER) (args:List Opnd)
 |mark (f:AE) (M:DMk) (x k:Opnd)
 |callp (m:Bool) (f:AE) (p:Bj) (D:Cs) (args:List Opnd)
 |callv (m:Bool) (f:AE) (p:Bj) (D:Cs) (args:List Opnd) (i c:Nat)
structure DOper where
 id:Nat
 dst:Option Nat
 op:DOp
 guard:Option (Nat×Bool)
 anc:List Nat
inductive DCode where
 |skip
 |region (ops:List DOper)
 |regionU (ops:List DOper)
 |seq (l:List Nat) (a b:DCode)
 |cond (c:Opnd) (a b:DCode)
 |block (id:Nat) (a:DCode)
 |loop (live:List Nat) (n:Nat) (a:DCode)
 |exit (id:Nat)
 |ret
def DOp.er:DOp→POp
 |.a m o _=>.a m o
 |.aw ws m o _=>.aw ws m o
 |.call m f p _ args=>.callk m f p args
 |.mark f M x k=>.mark f M.P x k
 |.callp m f p _ args=>.call m f p args
 |.callv m f p _ args i c=>.callv m f p args i c
def DOper.er(o:DOper):POper:=⟨o.id,o.dst,o.op.er,o.guard,o.anc⟩
def DCode.er:DCode→PCode
 |.skip=>.skip
 |.region ops=>.region (ops.map DOper.er)
 |.regionU ops=>.regionU (ops.map DOper.er)
 |.seq l a b=>.seq l a.er b.er
 |.cond c a b=>.cond c a.er b.er
 |.block i a=>.block i a.er
 |.loop l _ a=>.loop l a.er
 |.exit i=>.exit i
 |.ret=>.ret
@[reducible] def oa (i d:Nat) (o:AOp):DOper:=⟨i,some d,.a false o none,none,[]⟩
@[reducible] def ob (i d:Nat) (o:AOp):DOper:=⟨i,some d,.a true o none,none,[]⟩
@[reducible] def om (i d t:Nat):DOper:=⟨i,some d,.a false (.mv (.t t)) none,none,[]⟩
@[reducible] def on (i d t:Nat):DOper:=⟨i,some d,.a true (.mv (.t t)) none,none,[]⟩
@[reducible] def oi (i d:Nat) (n:Int):DOper:=⟨i,some d,.a false (.mv (.c (.int .i64 n))) none,none,[]⟩
@[reducible] def os (i:Nat) (o:AOp):DOper:=⟨i,none,.a false o none,none,[]⟩
@[reducible] def oc (i d:Nat) (f:AE) (p:Bj) (D:ER) (args:List Opnd):DOper:=⟨i,some d,.call false f p D args,none,[]⟩
@[reducible] def og (i d:Nat) (o:AOp) (g:Nat) (b:Bool):DOper:=⟨i,some d,.a false o none,some (g,b),[]⟩
@[reducible] def xA (i d:Nat) (o:AOp) (a:List Nat):DOper:=⟨i,some d,.a false o none,none,a⟩
@[reducible] def xB (i d:Nat) (o:AOp) (a:List Nat):DOper:=⟨i,some d,.a true o none,none,a⟩
@[reducible] def xS (i:Nat) (o:AOp) (a:List Nat):DOper:=⟨i,none,.a false o none,none,a⟩
@[reducible] def xC (i d:Nat) (f:AE) (p:Bj) (D:ER) (args:List Opnd) (a:List Nat):DOper:=⟨i,some d,.call false f p D args,none,a⟩
@[reducible] def op (i d:Nat) (f:AE) (p:Bj) (D:Cs) (args:List Opnd):DOper:=⟨i,some d,.callp false f p D args,none,[]⟩
def Yz:Nat→Nat→List Nat
 |_,0=>[]
 |k,n+1=>k::Yz (k+1) n
def rg(n:Nat):List Nat:=Yz 0 n
def Da:List Opnd→DS→DS
 |[],st=>st
 |x::r,st=>Da r (Jj x st).2
def Dt(s:List DC):List Opnd→List DV
 |[]=>[]
 |x::r=>x.dev s::Dt s r
def Jx(D:ER)(args:List Opnd)(st:DS):C5:=
 let as:=Dt st.sl args
 if FE as&&!(DV.hasPtrL as) then (match D (DV.fzL as) with
  |some (g,v)=>if v.ok&&!v.hasPtr&&(v.deep||!(DV.holdL as)) then some (g,v,st) else none
  |none=>none)
 else none
def Ql.isH':Ql→Bool
 |.bor (.h _) _ _=>true
 |.pre (.h _) _=>true
 |_=>false
mutual
def DV.isH:DV→Bool
 |.nil q=>q.isH'
 |.sl q _ _=>q.isH'
 |.ep q _ _ _ _=>q.isH'
 |.agg cs=>DV.isHL cs
 |.tup vs=>DV.isHL vs
 |_=>false
def DV.isHL:List DV→Bool
 |[]=>false
 |v::r=>v.isH||DV.isHL r
end
def Na:List DC→List DC
 |[]=>[]
 |c::r=>(if c.v.isH then ⟨true,.any⟩ else c)::Na r
def Fj:List (List DC)→List (List DV)
 |[]=>[]
 |b::r=>A4 b::Fj r
def newsB:List (List DV)→List (List DC)
 |[]=>[]
 |b::r=>news b::newsB r
def JG:List DC→List DV→List DC
 |[],vs=>news vs
 |c::r,[]=>c::r
 |c::r,v::vs=>(if v.isAny then c else ⟨true,v⟩)::JG r vs
def JA:List (List DC)→List (List DV)→List (List DC)
 |[],vs=>newsB vs
 |c::r,[]=>c::r
 |c::r,v::vs=>JG c v::JA r vs
def DZ:List DV→List DV→List DV
 |[],vs=>vs
 |c::r,[]=>c::r
 |c::r,v::vs=>(if v.isAny then c else v)::DZ r vs
def Gp:List (List DV)→List (List DV)→List (List DV)
 |[],vs=>vs
 |c::r,[]=>c::r
 |c::r,v::vs=>DZ c v::Gp r vs
def QG:List (List DV)→Bool
 |[]=>true
 |b::r=>Nat.blt 0 b.length&&DV.okL b&&QG r
def EH:List (List DV)→List (List PV)
 |[]=>[]
 |b::r=>DV.encL b::EH r
def DV.isP0:DV→Bool
 |.ptr 0 0=>true
 |_=>false
def Hl(D:Cs)(args:List Opnd)(st:DS):C5:=
 let as:=Dt st.sl args
 if FE as&&!(DV.holdL as)&&QG (Fj st.hp) then
  (if DV.hasPtrL as then (match D (DV.fzL as) (Fj st.hp) with
   |some (g,v,H)=>if v.ok&&!v.hasPtr then some (g,v,{ st with sl:=Na st.sl,hp:=JA st.hp H }) else none
   |none=>none)
  else if st.hp.length == 0 then (match D (DV.fzL as) [] with
   |some (g,v,H)=>if v.isP0 then some (g,v,{ st with hp:=newsB H }) else none
   |none=>none)
  else none)
 else none
def DV.ownS:DV→Bool
 |.sl .own _ _|.nil .own=>true
 |_=>false
def MH(i c:Nat)(D:Cs)(args:List Opnd)(st:DS):C5:=
 if DV.hasPtrL (Dt st.sl args)&&(Bt st (.b i) [c]).ownS then Hl D args st else none
def DV.isAgg:DV→Bool
 |.agg _=>true
 |_=>false
def DV.flatc:DV→Bool
 |.bool _|.int _ _|.str _|.ifc _=>true
 |_=>false
def Qr:Nat→List DV→Option (Hd×Nat)
 |_,[]=>none
 |c,.sl (.bor hd [p] true) _ _::_=>if Nat.ble c p&&hd.sb then some (hd,p-c) else none
 |c,.nil (.bor hd [p] true)::_=>if Nat.ble c p&&hd.sb then some (hd,p-c) else none
 |c,_::r=>Qr (c+1) r
def EM(st:DS)(hd:Hd):Nat→List DV→Option (PX×List DV)
 |_,[]=>some (.tt,[])
 |c,.sl q _ l::vs=>if Di q (.bor hd [c] true) then (match Bt st hd [c],EM st hd (c+1) vs with
  |.sl .own r' l',some (g,os)=>some (PX.land (.p (l.length=l'.length)) g,.sl .own r' l'::os)
  |.nil .own,some (g,os)=>some (PX.land (.p (l.length=0)) g,.nil .own::os)
  |_,_=>none) else none
 |c,.nil q::vs=>if Di q (.bor hd [c] true) then (match Bt st hd [c],EM st hd (c+1) vs with
  |.sl .own r' l',some (g,os)=>some (PX.land (.p (l'.length=0)) g,.sl .own r' l'::os)
  |.nil .own,some (g,os)=>some (g,.nil .own::os)
  |_,_=>none) else none
 |c,v::vs=>if v.flatc then (match EM st hd (c+1) vs with
  |some (g,os)=>some (g,v::os)
  |none=>none) else none
def FW(hd:Hd):Nat→List DV→DS→Option DS
 |_,[],st=>some st
 | c,.sl q r l::vs,st=>(match Bt st hd [c] with
   |.sl .own _ _=>FW hd (c+1) vs (EG st (.sl q r l) hd [c])
   |.nil .own=>FW hd (c+1) vs (EG st (.sl q r l) hd [c])
   |_=>none)
 |_,.nil _::_,_=>none
 |c,_::vs,st=>FW hd (c+1) vs st
def Js (M:DMk)(x k:Opnd)(st:DS):C5:=
 match k.dev st.sl with
 | .int .i64 m=>if (x.dev st.sl).isAgg == M.agg&&(x.dev st.sl).argok then (match Qr 0 (x.dev st.sl).cells with
   | some (hd,b)=>(match EM st hd b (x.dev st.sl).cells with
     | some (g,os)=>(match M.r.of os with
       | some y=>(match FW hd b (M.r.dv .own (M.g y m).1) st with
         |some st'=>some (g.land (.p (M.ok y)),(match M.vd with|true=>.undef|false=>.int .i64 (M.g y m).2),st')
         |none=>none)
       |none=>none)
     |none=>none)
   |none=>none) else none
 |_=>none
def BW(o:DOp)(d:Option Nat)(k:DS→DT)(st:DS):DT:=
 match o with
 | .call m _ _ D args=>(match Jx D args (if m then Da args st else st) with
   |some (g,v,st)=>DT.chk' g (k (st.put d v))
   |none=>.bad)
 | .callp m _ _ D args=>(match Hl D args (if m then Da args st else st) with
   |some (g,v,st)=>DT.chk' g (k (st.put d v))
   |none=>.bad)
 | .callv m _ _ D args i c=>(match MH i c D args (if m then Da args st else st) with
   |some (g,v,st)=>DT.chk' g (k (st.put d v))
   |none=>.bad)
 | .aw ws m o ty=>(match Ja ws m o ty st with
   |some (g,v,st)=>DT.chk' g (k (st.put d v))
   |none=>.bad)
 | .mark _ M x y=>(match Js M x y st with
   |some (g,v,st)=>DT.chk' g (k (st.put d v))
   |none=>.bad)
 | .a m o ty=>(match o with
   | .pick c a b=>(match c.dev st.sl with
     | .bool (.lit t)=>(match if t then AG a st else AG b st with
       |(v,st)=>if v.ok then k (st.put d v) else .bad)
     | .bool (.dyn t)=>
       if (a.dev st.sl).own||(b.dev st.sl).own||!(Ca t (a.dev st.sl) (b.dev st.sl)).ok then .node t (match AG a st with|(v,st)=>if v.ok then k (st.put d v) else .bad) (match AG b st with|(v,st)=>if v.ok then k (st.put d v) else .bad)
       else k (st.put d (Ca t (a.dev st.sl) (b.dev st.sl)))
     |_=>.bad)
   | o=>(match A3 m o ty st with
     |some (g,v,st)=>DT.chk' g (k (st.put d v))
     |none=>.bad))
def JC(st:DS)(g:Nat)(b:Bool):DS:={ st with sl:=Ci st.sl g (.bool (.lit b)) }
def La(o:DOper)(k:DS→DT)(st:DS):DT:=
 match o.guard with
 |none=>BW o.op o.dst k st
 | some (g,want)=>(match AR st.sl g with
   |.bool (.lit b)=>if b == want then BW o.op o.dst k st else k (st.put o.dst (.tup []))
   |.bool (.dyn b)=>.node b (if want then BW o.op o.dst k (JC st g true) else k ((JC st g true).put o.dst (.tup []))) (if want then k ((JC st g false).put o.dst (.tup [])) else BW o.op o.dst k (JC st g false))
   |.tup []=>k (st.put o.dst (.tup []))
   |_=>.bad)
def GF:List DOper→DS→DT
 |[],st=>.leaf .normal st
 |o::r,st=>La o (GF r) st
def setc(st:DS)(c:Opnd)(b:Bool):DS:=match c with
 |.t g=>JC st g b
 |.c _=>st
def dev:DCode→DS→DT
 |.skip,st=>.leaf .normal st
 |.region ops,st=>GF ops st
 |.regionU ops,st=>if M4 (ops.map DOper.er) then GF ops st else .bad
 |.seq l a b,st=>(dev a st.clean).then (fun st'=>dev b (Iv st (Qq l st'))) (Iv st)
 | .cond c a b,st=>(match c.dev st.sl with
   |.bool (.lit t)=>if t then dev a st else dev b st
   |.bool (.dyn t)=>.node t (dev a (setc st c true)) (dev b (setc st c false))
   |_=>.bad)
 |.block i a,st=>(dev a st).unexit i
 |.loop live n a,st=>K9 live n (fun st=>dev a st.clean) st
 |.exit i,st=>.leaf (.exit i) st
 |.ret,st=>.leaf .ret st
structure DFun where
 nparams:Nat
 nslots:Nat
 nbox:Nat
 pure:Bool
 res:List ARes
 body:DCode
def DFun.er(f:DFun):PFun:=⟨f.nparams,f.nslots,f.nbox,f.pure,f.res,f.body.er⟩
def He(st:DS):ARes→Option (DV×DS)
 |.tmp t=>if (AR st.sl t).retok&&(AR st.sl t).ok then some (Nq (AR st.sl t) t st) else none
 | .cell t n=>(match AR st.sl t with
   |.box i o=>if Nat.ble (o+n.getD 1) (A9 st.bx i).length&&Gr (Bp (A4 (A9 st.bx i)) o (n.getD 1)) then (Jh true i n (.box i o) st).map (·.2) else none
   |.ptr i o=>if Nat.ble (o+n.getD 1) (A9 st.hp i).length&&Gr (Bp (A4 (A9 st.hp i)) o (n.getD 1)) then (Ia true n (.ptr i o) st).map (·.2) else none
   |_=>none)
def FF(st:DS):List ARes→Option (List DV×DS)
 |[]=>some ([],st)
 | r :: rs=>(match He st r with
   | some (v,st)=>(match FF st rs with
     |some (vs,st)=>some (v::vs,st)
     |none=>none)
   |none=>none)
def EF(st:DS):List ARes→Option DV
 |[r]=>(He st r).map (·.1)
 |rs=>(FF st rs).map fun x=>.tup x.1
def DT.val(res:List ARes):DT→PX×Option DV
 |.leaf (.exit _) _=>(.ff,none)
 | .leaf _ st=>(match EF st res with
   |some v=>if v.ok&&!v.hasPtr then (.tt,some v) else (.ff,none)
   |none=>(.ff,none))
 | .node c a b=>(match a.val res,b.val res with
   |(g,none),(g',y)=>(PX.if' c g g',y)
   |(g,x),(g',none)=>(PX.if' c g g',x)
   |(g,some x),(g',some y)=>(PX.if' c g g',some (Ca c x y)))
 | .chk g t=>(match t.val res with
   |(g',v)=>(g.land g',v))
 |.bad=>(.ff,none)
def Ev(n:Nat):List DC:=match n with
 |0=>[]
 |n+1=>⟨true,.any⟩::Ev n
def Ew:Nat→List (List DC)
 |0=>[]
 |n+1=>[]::Ew n
def Np(f:DFun)(args:List DV):PX×Option DV:=
 (dev f.body ⟨news args++Ev (f.nslots-f.nparams),Ew f.nbox,[]⟩).val f.res
end
def EC(c:DC)(p:PV):Prop:=c.v= .any∨p=c.v.enc
def EL:List DC→List PV→Prop
 |[],[]=>True
 |c::a,p::b=>EC c p∧EL a b
 |_,_=>False
def EBx(b:List DC)(p:List PV):Prop:=b=[]∨EL b p
def EB:List (List DC)→List (List PV)→Prop
 |[],[]=>True
 |c::a,p::b=>EBx c p∧EB a b
 |_,_=>False
structure ES (d:DS) (s:PS):Prop where
 sl:EL d.sl s.sl
 bx:EB d.bx s.bx
 hp:EB d.hp s.hp
theorem EL.len:∀ {a:List DC} {b:List PV},EL a b→a.length=b.length
 |[],[],_=>rfl
 |_::_,_::_,h=>by simp only[AX,EL.len h.2]
theorem EB.len:∀ {a:List (List DC)} {b:List (List PV)},EB a b→a.length=b.length
 |[],[],_=>rfl
 |_::_,_::_,h=>by simp only[AX,EB.len h.2]
def EV(v:DV)(p:PV):Prop:=v= .any∨p=v.enc
theorem EL.get:∀ {a:List DC} {b:List PV} (n:Nat),EL a b→EV (AR a n) (Aa b n)
 |[],[],_,_=>.inl rfl
 |_::_,_::_,0,h=>h.1
 |_::_,_::_,n+1,h=>EL.get n h.2
theorem EL.put:∀ {a:List DC} {b:List PV} {v:DV} {p:PV} (n:Nat),EL a b→EV v p→EL (Ci a n v) (Bb b n p)
 |[],[],_,_,_,_,_=>trivial
 |_::_,_::_,_,_,0,h,hv=>⟨hv,h.2⟩
 |_::_,_::_,_,_,n+1,h,hv=>⟨h.1,EL.put n h.2 hv⟩
theorem EB.get:∀ {a:List (List DC)} {b:List (List PV)} (n:Nat),EB a b→EBx (A9 a n) (Ak b n)
 |[],[],_,_=>.inl rfl
 |_::_,_::_,0,h=>h.1
 |_::_,_::_,n+1,h=>EB.get n h.2
theorem EB.put:∀ {a:List (List DC)} {b:List (List PV)} {v:List DC} {p:List PV} (n:Nat),EB a b→EBx v p→EB (DR a n v) (Bn b n p)
 |[],[],_,_,_,_,_=>trivial
 |_::_,_::_,_,_,0,h,hv=>⟨hv,h.2⟩
 |_::_,_::_,_,_,n+1,h,hv=>⟨h.1,EB.put n h.2 hv⟩
theorem Dm:∀ (l:List DV),(DV.encL l).length=l.length
 |[]=>rfl
 |_::r=>by simp only[DV.encL,AX,Dm r]
theorem EL.splice:∀ {a:List DC} {b:List PV} (n:Nat) (vs:List DV),EL a b→EL (Gd a n vs) (Ao b n (DV.encL vs))
 |[],[],_,[],_=>trivial
 |[],[],_,_::_,_=>trivial
 |_::_,_::_,0,[],h=>h
 |_::_,_::_,_+1,[],h=>h
 |_::_,_::_,0,v::vs,h=>⟨.inr rfl,EL.splice 0 vs h.2⟩
 |_::_,_::_,n+1,v::vs,h=>⟨h.1,EL.splice n (v::vs) h.2⟩
theorem LU:∀ (cs:List DV) (n:Nat) (vs:List DV),DV.encL (Gc cs n vs)=Ao (DV.encL cs) n (DV.encL vs)
 |[],_,[]=>rfl
 |_::_,0,[]=>rfl
 |_::_,_+1,[]=>rfl
 |[],0,_::_=>rfl
 |[],_+1,_::_=>rfl
 |_::r,0,v::vs=>by simp only[Gc,DV.encL,Ao,LU r 0 vs]
 |c::r,n+1,v::vs=>by simp only[Gc,DV.encL,Ao,LU r n (v::vs)]
theorem OY:∀ (cs:List DV) (o n:Nat),DV.encL (Bp cs o n)=segm (DV.encL cs) o n
 |[],0,0=>rfl
 |[],0,_+1=>rfl
 |[],_+1,_=>rfl
 |_::_,0,0=>rfl
 |c::r,0,n+1=>by simp only[Bp,DV.encL,segm,OY r 0 n]
 | _::r,o+1,n=>by
   simp only[Bp,DV.encL,segm];exact OY r o n
theorem Ku:∀ (cs:List DV) (n:Nat),(EN cs n).enc=Aa (DV.encL cs) n
 |[],_=>rfl
 |_::_,0=>rfl
 |_::r,n+1=>Ku r n
theorem Ph:∀ (cs:List DV) (n:Nat) (v:DV),DV.encL (Ln cs n v)=Bb (DV.encL cs) n v.enc
 |[],_,_=>rfl
 |_::_,0,_=>rfl
 |_::r,n+1,v=>by simp only[Ln,DV.encL,Bb,Ph r n v]
theorem EL.segm:∀ {a:List DC} {b:List PV} (o n:Nat),EL a b→DV.okL (Bp (A4 a) o n)=true→Go.Ag.segm b o n=DV.encL (Bp (A4 a) o n)
 |[],[],0,0,_,_=>rfl
 |[],[],0,_+1,_,_=>rfl
 |[],[],_+1,_,_,_=>rfl
 |_::_,_::_,0,0,_,_=>rfl
 | c::r,p::s,0,n+1,h,hk=>by
   simp only[A4,Bp,DV.okL,Ai] at hk
   simp only[A4,Bp,Go.Ag.segm,DV.encL]
   rw[EL.segm 0 n h.2 hk.2]
   rcases h.1 with h1|h1
   · rw[h1] at hk;cases hk.1
   · rw[h1]
 | _::r,_::s,o+1,n,h,hk=>by
   simp only[A4,Bp,Go.Ag.segm] at hk ⊢
   exact EL.segm o n h.2 hk
theorem Me:∀ (a:List DC),(A4 a).length=a.length
 |[]=>rfl
 |_::r=>by simp only[A4,AX,Me r]
theorem EL.news:∀ (vs:List DV),EL (Go.Ag.news vs) (DV.encL vs)
 |[]=>trivial
 |_::r=>⟨.inr rfl,EL.news r⟩
theorem Yd(q:Ql)(es:List (List PV)):(PV.sl q es).own=q.own':=by cases q<;>rfl
theorem X6(q:Ql)(hd:Hd)(es:List (List PV)):(PV.sl q es).bor hd=q.bor' hd:=by cases q<;>rfl
theorem gT(q:Ql)(hd:Hd)(es:List (List PV))(j o:Nat):(PV.ep q es j o).bor hd=q.bor' hd:=by cases q<;>rfl
mutual
theorem G6:∀ (v:DV),v.enc.own=v.own
 |.any|.undef|.bool _|.int _ _|.str _|.ifc _|.box _ _|.ptr _ _=>rfl
 |.nil q=>Yd q []
 |.sl q _ _=>Yd q _
 |.ep q _ _ _ _=>by cases q<;>rfl
 |.agg cs=>KB cs
 |.tup vs=>KB vs
theorem KB:∀ (l:List DV),PV.ownL (DV.encL l)=DV.ownL l
 |[]=>rfl
 |v::r=>by simp only[DV.encL,PV.ownL,DV.ownL,G6 v,KB r]
end
mutual
theorem Py(hd:Hd):∀ (v:DV),v.enc.bor hd=v.bor hd
 |.any|.undef|.bool _|.int _ _|.str _|.ifc _|.box _ _|.ptr _ _=>rfl
 |.nil q=>X6 q hd []
 |.sl q _ _=>X6 q hd _
 |.ep q _ _ _ _=>gT q hd _ _ _
 |.agg cs=>R9 hd cs
 |.tup vs=>R9 hd vs
theorem R9(hd:Hd):∀ (l:List DV),PV.borL hd (DV.encL l)=DV.borL hd l
 |[]=>rfl
 |v::r=>by simp only[DV.encL,PV.borL,DV.borL,Py hd v,R9 hd r]
end
mutual
theorem gJ:∀ (v:DV),v.enc.hold=v.hold
 |.any|.undef|.bool _|.int _ _|.str _|.ifc _|.box _ _|.ptr _ _=>rfl
 |.nil q=>by cases q<;>rfl
 |.sl q _ _=>by cases q<;>rfl
 |.ep q _ _ _ _=>by cases q<;>rfl
 |.agg cs=>L3 cs
 |.tup vs=>L3 vs
theorem L3:∀ (l:List DV),PV.holdL (DV.encL l)=DV.holdL l
 |[]=>rfl
 |v::r=>by simp only[DV.encL,PV.holdL,DV.holdL,gJ v,L3 r]
end
mutual
theorem Yk:∀ (v:DV),v.fz.enc=v.enc.fz
 |.any|.undef|.bool _|.int _ _|.str _|.ifc _|.box _ _|.ptr _ _|.nil _|.sl _ _ _|.ep _ _ _ _ _=>rfl
 |.agg cs=>by simp only[DV.fz,DV.enc,PV.fz,KJ cs]
 |.tup cs=>by simp only[DV.fz,DV.enc,PV.fz,KJ cs]
theorem KJ:∀ (l:List DV),DV.encL (DV.fzL l)=PV.fzL (DV.encL l)
 |[]=>rfl
 |v::r=>by simp only[DV.encL,PV.fzL,DV.fzL,Yk v,KJ r]
end
mutual
theorem RN:∀ (v:DV),v.detop.enc=v.enc.detop
 |.any|.undef|.bool _|.int _ _|.str _|.ifc _|.box _ _|.ptr _ _=>rfl
 |.nil q=>by cases q<;>rfl
 |.sl q _ _=>by cases q<;>rfl
 |.ep q _ _ _ _=>by cases q<;>rfl
 |.agg cs=>by simp only[DV.detop,DV.enc,PV.detop,Rp cs]
 |.tup cs=>by simp only[DV.detop,DV.enc,PV.detop,Rp cs]
theorem Rp:∀ (l:List DV),DV.encL (DV.detopL l)=PV.detopL (DV.encL l)
 |[]=>rfl
 |v::r=>by simp only[DV.encL,PV.detopL,DV.detopL,RN v,Rp r]
end
mutual
theorem OU:∀ (v:DV),v.enc.hasPtr=v.hasPtr
 |.any|.undef|.bool _|.int _ _|.str _|.ifc _|.box _ _|.ptr _ _|.nil _|.sl _ _ _|.ep _ _ _ _ _=>rfl
 |.agg cs=>HK cs
 |.tup vs=>HK vs
theorem HK:∀ (l:List DV),PV.hasPtrL (DV.encL l)=DV.hasPtrL l
 |[]=>rfl
 |v::r=>by simp only[DV.encL,PV.hasPtrL,DV.hasPtrL,OU v,HK r]
end
mutual
theorem XK:∀ (t:CT) (x:t.D),(CT.enc t x).deep=true
 |.int _,_|.bool,_|.str,_|.ifc,_=>rfl
 | .sl r,l=>by
   simp only[CT.enc,PV.deep]
   exact R8 r l
theorem X3:∀ (r:RT) (x:r.D),PV.deepL (RT.enc r x)=true
 |.one t,x=>by simp only[RT.enc,PV.deepL,XK t x,B9]
 |.cons t r,x=>by simp only[RT.enc,PV.deepL,XK t x.1,X3 r x.2,B9]
theorem R8:∀ (r:RT) (l:List r.D),PV.deepE (l.map (RT.enc r))=true
 |_,[]=>rfl
 |r,x::l=>by simp only[BE,PV.deepE,X3 r x,R8 r l,B9]
end
theorem EL.clr(hd:Hd):∀ {a:List DC} {b:List PV},EL a b→EL (Cj hd a) (Go.Ag.clr hd b)
 |[],[],_=>trivial
 | c :: _,p::_,h=>by
   refine⟨?_,EL.clr hd h.2⟩
   by_cases hb:c.v.bor hd=true
   · rw[Ab hb];exact .inl rfl
   · rw[Ad hb]
     rcases h.1 with h1|h1
     · exact .inl h1
     · rw[h1,Py,Ad hb];exact .inr rfl
theorem fE(i:Nat)(v:DV):v.enc.isBox i=v.isBox i:=by cases v<;>rfl
theorem EL.clearBox(i:Nat):∀ {a:List DC} {b:List PV},EL a b→EL (LY i a) (Ek i b)
 |[],[],_=>trivial
 | c :: _,p::_,h=>by
   refine⟨?_,EL.clearBox i h.2⟩
   by_cases hb:c.v.isBox i=true
   · rw[Ab hb];exact .inl rfl
   · rw[Ad hb]
     rcases h.1 with h1|h1
     · exact .inl h1
     · rw[h1,fE,Ad hb];exact .inr rfl
theorem EL.trim(live:List Nat):∀ {a:List DC} {b:List PV} (n:Nat),EL a b→EL (Qu live n a) (Ec live n b)
 |[],[],_,_=>trivial
 | c::_,p::_,n,h=>by
   refine⟨?_,EL.trim live (n+1) h.2⟩
   by_cases hb:live.contains n=true
   · rw[Ab hb,Ab hb];exact h.1
   · rw[Ad hb];exact .inl rfl
mutual
theorem WN:∀ (v:DV),v.hasTop=false→v.detop=v
 |.any,_|.undef,_|.bool _,_|.int _ _,_|.str _,_|.ifc _,_|.box _ _,_|.ptr _ _,_=>rfl
 |.nil q,h=>by cases q<;>first|rfl|(simp only[DV.hasTop,DV.top] at h;first|(subst h;rfl)|cases h)
 |.sl q _ _,h=>by cases q<;>first|rfl|(simp only[DV.hasTop,DV.top] at h;first|(subst h;rfl)|cases h)
 |.ep q _ _ _ _,h=>by cases q<;>first|rfl|(simp only[DV.hasTop,DV.top] at h;first|(subst h;rfl)|cases h)
 |.agg cs,h=>by simp only[DV.hasTop] at h;simp only[DV.detop,RB cs h]
 |.tup cs,h=>by simp only[DV.hasTop] at h;simp only[DV.detop,RB cs h]
theorem RB:∀ (l:List DV),DV.hasTopL l=false→DV.detopL l=l
 |[],_=>rfl
 | v::r,h=>by
   simp only[DV.hasTopL,CK] at h
   simp only[DV.detopL,WN v h.1,RB r h.2]
end
theorem EL.keep(live:List Nat):∀ {a:List DC} {b:List PV} (n:Nat),EL a b→EL (P6 live n a) (Dd live n b)
 |[],[],_,_=>trivial
 | c :: _,p::_,n,h=>by
   refine⟨?_,EL.keep live (n+1) h.2⟩
   by_cases hb:live.contains n=true
   · rw[Ab hb,Ab hb]
     rcases h.1 with h1|h1
     · rw[h1];exact .inl h1
     · by_cases ht:c.v.hasTop=true
       · rw[Ab ht,h1];exact .inr (RN c.v).symm
       · rw[Ad ht,h1,← RN,WN c.v (by simpa using ht)];exact .inr rfl
   · rw[Ad hb];exact .inl rfl
theorem EL.clean:∀ {a:List DC} {b:List PV},EL a b→EL (Go.Ag.clean a) b
 |[],[],_=>trivial
 |_::_,_::_,h=>⟨h.1,EL.clean h.2⟩
theorem EBx.clean{a:List DC}{b:List PV}(h:EBx a b):EBx (Go.Ag.clean a) b:=by
 rcases h with rfl|h
 · exact .inl rfl
 · exact .inr h.clean
theorem EB.clean:∀ {a:List (List DC)} {b:List (List PV)},EB a b→EB (K5 a) b
 |[],[],_=>trivial
 |_::_,_::_,h=>⟨h.1.clean,EB.clean h.2⟩
theorem ES.clean{d:DS}{s:PS}(h:ES d s):ES d.clean s:=⟨h.sl.clean,h.bx.clean,h.hp.clean⟩
theorem ES.trim{d:DS}{s:PS}(l:List Nat)(h:ES d s):ES (Qq l d) { s with sl:=Ec l 0 s.sl }:=⟨h.sl.trim l 0,h.bx,h.hp⟩
theorem ES.keep{d:DS}{s:PS}(l:List Nat)(h:ES d s):ES (CL l d) { s with sl:=Dd l 0 s.sl }:=⟨h.sl.keep l 0,h.bx,h.hp⟩
theorem EL.rem:∀ {x a:List DC} {b:List PV},EL a b→EL (Lo x a) b
 |[],[],[],_=>trivial
 |[],_::_,_::_,h=>h
 |_::_,[],[],_=>trivial
 |_::_,_::_,_::_,h=>⟨h.1,EL.rem h.2⟩
theorem EBx.rem{x a:List DC}{b:List PV}(h:EBx a b):EBx (Lo x a) b:=by
 rcases h with rfl|h
 · cases x<;>exact .inl rfl
 · exact .inr h.rem
theorem EB.rem:∀ {x a:List (List DC)} {b:List (List PV)},EB a b→EB (Nv x a) b
 |[],[],[],_=>trivial
 |[],_::_,_::_,h=>h
 |_::_,[],[],_=>trivial
 |_::_,_::_,_::_,h=>⟨h.1.rem,EB.rem h.2⟩
theorem ES.rem{x d:DS}{s:PS}(h:ES d s):ES (Iv x d) s:=⟨h.sl.rem,h.bx.rem,h.hp.rem⟩
theorem ES.put{d:DS}{s:PS}(x:Option Nat)(v:DV)(h:ES d s):ES (d.put x v) (s.put x v.enc):=by
 cases x with
 |none=>exact h
 | some n=>
   simp only[DS.put,PS.put,G6];by_cases ho:v.own=true
   · rw[Ab ho,Ab ho];exact⟨(h.sl.put n (.inr rfl)).clr _,h.bx,h.hp⟩
   · rw[Ad ho,Ad ho];exact⟨h.sl.put n (.inr rfl),h.bx,h.hp⟩
theorem Pc(v:V)(h:Gw v≠.any):(Gw v).enc=AZ v:=by
 cases v<;>first|rfl|skip
 case tup vs=>cases vs<;>rfl
theorem Dl{d:DS}{s:PS}(x:Opnd)(h:ES d s)(hk:(AG x d).1.ok=true):(mvOut x s).1=(AG x d).1.enc∧ES (AG x d).2 (mvOut x s).2:=by
 cases x with
 | c v=>
   refine⟨?_,h⟩;refine(Pc v fun he=>?_).symm;simp only[AG,he,DV.ok,As] at hk
 | t n =>
   simp only[AG,Nq,mvOut,Dz] at hk ⊢;rcases h.sl.get n with hg|hg
   · rw[hg] at hk;simp only[DV.own,As,AB,DV.ok] at hk
   · rw[hg,G6,Py];by_cases ho:(AR d.sl n).own=true
     · simp only[ho,Az] at hk ⊢;by_cases hb:(AR d.sl n).bor (.s n)=true
       · simp only[hb,Az,DV.ok,As] at hk
       · simp only[hb] at hk ⊢;exact⟨rfl,(h.sl.put n (.inl rfl)).clr _,h.bx,h.hp⟩
     · simp only[ho] at hk ⊢;exact⟨rfl,h⟩
theorem gD(v:DV)(h:v.cell=true):v.enc.cell=true:=by
 cases v<;>first|rfl|cases h|skip
 case nil q=>cases q<;>first|rfl|cases h
 case sl q r l=>cases q<;>first|rfl|cases h
theorem IW:∀ (l:List DV),Cd l=true→AU (DV.encL l)=true
 |[],_=>rfl
 | v::r,h=>by
   simp only[Cd,Ai] at h
   simp only[DV.encL,AU,gD v h.1,IW r h.2,B9]
theorem jl(v:DV)(h:v.cell=true):v.ok=true:=by cases v<;>first|rfl|cases h
theorem WE:∀ (l:List DV),Cd l=true→DV.okL l=true
 |[],_=>rfl
 | v::r,h=>by
   simp only[Cd,Ai] at h
   simp only[DV.okL,jl v h.1,WE r h.2,B9]
theorem G0(v:DV):v.enc.cells=DV.encL v.cells:=by cases v<;>rfl
theorem L7(v:DV)(h:Cd v.cells=true):v.ok=true:=by
 cases v<;>first|rfl|(simp only[DV.cells,Cd,DV.cell,Jr,As] at h)|skip
 case agg cs=>exact WE cs h
theorem RY(v:DV)(h:v.retc=true):v.enc.retc=true:=by
 cases v<;>first|rfl|cases h|skip
 case nil q=>cases q<;>first|rfl|cases h
 case sl q r l=>cases q<;>first|rfl|cases h
theorem Po:∀ (l:List DV),Gr l=true→Du (DV.encL l)=true
 |[],_=>rfl
 | v::r,h=>by
   simp only[Gr,Ai] at h
   simp only[DV.encL,Du,RY v h.1,Po r h.2,B9]
theorem fY(v:DV)(h:v.retok=true):v.enc.retok=true:=by
 cases v<;>first|rfl|cases h|skip
 case nil q=>exact RY (.nil q) h
 case sl q r l=>exact RY (.sl q r l) h
 case agg cs=>exact Po cs h
theorem Xl(v:DV)(h:v.argc=true):v.enc.argc=true:=by cases v<;>first|rfl|cases h
theorem WM:∀ (l:List DV),Qn l=true→GB (DV.encL l)=true
 |[],_=>rfl
 | v::r,h=>by
   simp only[Qn,Ai] at h
   simp only[DV.encL,GB,Xl v h.1,WM r h.2,B9]
theorem Wu(v:DV)(h:v.argok=true):v.enc.argok=true:=by
 cases v<;>first|rfl|cases h|exact Xl _ h|skip
 case agg cs=>exact WM cs h
theorem OT:∀ (l:List DV),FE l=true→Gm (DV.encL l)=true
 |[],_=>rfl
 | v::r,h=>by
   simp only[FE,Ai] at h
   simp only[DV.encL,Gm,Wu v h.1,OT r h.2,B9]
theorem Opnd.dev_ev{d:DS}{s:PS}(h:ES d s)(x:Opnd):EV (x.dev d.sl) (x.pev s.sl):=by
 cases x with
 |t n=>exact h.sl.get n
 | c v=>
   by_cases hv:Gw v= .any
   · exact .inl hv
   · exact .inr (Pc v hv).symm
theorem EV.of{v:DV}{p:PV}(h:EV v p)(hn:v≠.any):p=v.enc:=h.resolve_left hn
theorem bR{op:BinOp}{k:IntKind}{a b:Int}{g:PX}{v:DV}(h:Pz op k a b=some (g,v))(hg:g.den):(Gg op k a b).map PV.fl=some v.enc:=by
 cases op<;>simp only[Pz,dI,dB,Ah,Aj,reduceCtorEq] at h<;>obtain⟨rfl,rfl⟩:=h<;>simp only[Gg,YQ,YB,YO,j4,Yu,TG,kU,ks,fD,Qx,Y3,Ze,Y6,YZ,YW,DV.enc,BX.b,Bw]
 · rw[Ad (show ¬ b=0 from hg)];rfl
 · rw[Ad (show ¬ b=0 from hg)];rfl
theorem Vm{op:BinOp}{k:IntKind}{a b:Int}{g:PX}{v:DV}(h:Qc op k a b=some (g,v))(hg:g.den):(IZ op k a b).map PV.fl=some v.enc:=by
 cases op<;>simp only[Qc,Ah,Aj,reduceCtorEq] at h<;>obtain⟨rfl,rfl⟩:=h<;>simp only[IZ,ku,Ym,DV.enc]<;>rw[Ad (show ¬ b<0 from Int.not_lt.mpr hg)]<;>rfl
theorem PD{k k':IntKind}(h:IntKind.same k k'=true):k=k':=by simpa [IntKind.same] using h
theorem dO{op:BinOp}{a b:DV}{p q:PV}{g:PX}{v:DV}(ha:EV a p)(hb:EV b q)(h:Lk op a b=some (g,v))(hg:g.den):Li op p q=some v.enc:=by
 cases a<;>try (simp only[Lk,reduceCtorEq] at h)
 case int k a=>
  cases b<;>try (simp only[Lk,reduceCtorEq] at h)
  case int k' b=>
   rw[ha.of (by simp),hb.of (by simp)];simp only[DV.enc,Li,FT];by_cases h1:op= .shl
   · subst h1;exact Vm h hg
   · by_cases h2:op= .shr
     · subst h2;exact Vm h hg
     · have h3:(if IntKind.same k k'=true then Pz op k a b else none)=some (g,v):=by cases op<;>first|exact h|exact absurd rfl h1|exact absurd rfl h2
       by_cases hk:IntKind.same k k'=true
       · rw[Ab hk] at h3;have:=PD hk;subst this;have h4:=bR h3 hg
         cases op<;>simp only[Az]<;>first|exact h4|exact absurd rfl h1|exact absurd rfl h2
       · rw[Ad hk] at h3;cases h3
 case str a=>
  cases b<;>try (simp only[Lk,reduceCtorEq] at h)
  case str b=>
   rw[ha.of (by simp),hb.of (by simp)];cases op<;>simp only[Lk,dB,Ah,Aj,reduceCtorEq] at h<;>obtain⟨rfl,rfl⟩:=h<;>simp only[DV.enc,Li,FT,YR,Zd,Zc,BX.b,Bw];rw[Ab (show a.length+b.length≤9223372036854775807 from hg)];rfl
theorem TE(x:BX):x.not.b=!x.b:=by cases x<;>simp only[BX.not,BX.b,K3]
theorem lH(x y:BX):(x.eq y).b=(x.b == y.b):=by
 cases x with
 | lit a=>cases y with
   |lit b=>rfl
   |dyn b=>cases a<;>cases b<;>simp only[BX.eq,BX.b,K3]<;>rfl
 | dyn a=>cases y with
   |lit b=>cases a<;>cases b<;>simp only[BX.eq,BX.b,K3]<;>rfl
   |dyn b=>simp only[BX.eq,BX.b,Yf]
theorem eu{neg:Bool}{a b:DV}{p q:PV}{g:PX}{v:DV}(ha:EV a p)(hb:EV b q)(h:QC neg a b=some (g,v)):M8 neg p q=some v.enc:=by
 cases a<;>try (simp only[QC,reduceCtorEq] at h)
 case bool a=>
  cases b<;>try (simp only[QC,reduceCtorEq] at h)
  case bool b=>
   rw[ha.of (by simp),hb.of (by simp)];simp only[DA,Ah,Aj] at h;obtain⟨rfl,rfl⟩:=h;cases neg<;>simp only[DV.enc,M8,Az,As,AB,TE,lH]
theorem eF{neg:Bool}{a:DV}{p:PV}{g:PX}{v:DV}(ha:EV a p)(h:Ud neg a=some (g,v)):MZ neg p=some v.enc:=by
 cases a<;>try (simp only[Ud,reduceCtorEq] at h)
 case ifc a=>
  rw[ha.of (by simp)];simp only[dB,Ah,Aj] at h;obtain⟨rfl,rfl⟩:=h;cases neg<;>simp only[DV.enc,MZ,Az,As,AB,K3,BX.b]
theorem eU{op:UnOp}{a:DV}{p:PV}{g:PX}{v:DV}(ha:EV a p)(h:Uh op a=some (g,v)):Nx op p=some v.enc:=by
 cases op<;>cases a<;>simp only[Uh,DA,dI,Ah,Aj,reduceCtorEq] at h<;>obtain⟨rfl,rfl⟩:=h<;>rw[ha.of (by simp)]<;>simp only[DV.enc,Nx,Is,Bw,TE,kq]
theorem dk{k:IntKind}{a:DV}{p:PV}{g:PX}{v:DV}(ha:EV a p)(h:TZ k a=some (g,v)):MF k p=some v.enc:=by
 cases a<;>simp only[TZ,dI,Ah,Aj,reduceCtorEq] at h;obtain⟨rfl,rfl⟩:=h;rw[ha.of (by simp)];simp only[DV.enc,MF,SU]
theorem cy{a:DV}{p:PV}{g:PX}{v:DV}(ha:EV a p)(h:Tt a=some (g,v)):Px p=some v.enc:=by
 cases a<;>simp only[Tt,DA,Ah,Aj,reduceCtorEq] at h<;>obtain⟨rfl,rfl⟩:=h<;>rw[ha.of (by simp)]<;>rfl
theorem bK{off:Nat}{a:DV}{p:PV}{g:PX}{v:DV}(ha:EV a p)(h:Su off a=some (g,v)):Pg off p=some v.enc:=by
 cases a<;>simp only[Su,DA,Ah,Aj,reduceCtorEq] at h<;>obtain⟨rfl,rfl⟩:=h<;>rw[ha.of (by simp)]<;>rfl
theorem dY{a:DV}{p:PV}{g:PX}{v:DV}(ha:EV a p)(h:T9 a=some (g,v)):MX p=some v.enc:=by
 cases a<;>simp only[T9,dI,Ah,Aj,reduceCtorEq] at h<;>obtain⟨rfl,rfl⟩:=h<;>rw[ha.of (by simp)]<;>simp only[DV.enc,MX,Bg,TA,AY]<;>rfl
theorem de{a:DV}{p:PV}{g:PX}{v:DV}(ha:EV a p)(h:T1 a=some (g,v)):MN p=some v.enc:=by
 cases a<;>simp only[T1,dI,Ah,Aj,reduceCtorEq] at h;obtain⟨rfl,rfl⟩:=h;rw[ha.of (by simp)];simp only[DV.enc,MN,TA]
theorem cC{a b:DV}{p q:PV}{g:PX}{v:DV}(ha:EV a p)(hb:EV b q)(h:PR a b=some (g,v))(hg:g.den):Mp p q=some v.enc:=by
 cases a<;>try (simp only[PR,reduceCtorEq] at h)
 cases b<;>simp only[PR,Ah,Aj,reduceCtorEq] at h;obtain⟨rfl,rfl⟩:=h;rw[ha.of (by simp),hb.of (by simp)];simp only[DV.enc,Mp,Yg];exact Ab hg
theorem H8:∀ (r:RT) (x:r.D),(RT.enc r x).length=r.w
 |.one _,_=>rfl
 |.cons _ r,x=>by simp only[RT.enc,AX,RT.w,H8 r x.2]
theorem DI(r:RT):∀ (l:List r.D),BH r.w (l.map (RT.enc r))=true
 |[]=>rfl
 |x::l=>by simp only[BE,BH,H8,beq_self_eq_true,DI r l,B9]
theorem bV{w:Nat}{x:Opnd}{a b:DV}{p q:PV}{g:PX}{v:DV}(ha:EV a p)(hb:EV b q)(h:Mr w x a b=some (g,v))(hg:g.den):Ma w x p q=some v.enc:=by
 cases a<;>try (simp only[Mr,reduceCtorEq] at h)
 case sl q' r l=>
  cases b<;>try (simp only[Mr,reduceCtorEq] at h)
  case int k j=>
   rw[ha.of (by simp),hb.of (by simp)];by_cases hw:(r.w == w)=true
   · rw[Ab hw] at h
     have hw':r.w=w:=by simpa using hw
     subst hw'
     cases hq:Dx x q' with
     |none=>rw[hq] at h;cases h
     | some q2=>
       rw[hq] at h;simp only[Ah,Aj] at h;obtain⟨rfl,rfl⟩:=h;simp only[DV.enc,Ma,Bg,TB];rw[Ab ⟨hg.1,hg.2,DI r l⟩,hq];rfl
   · rw[Ad hw] at h;cases h
 case nil q'=>cases b<;>simp only[Mr,reduceCtorEq] at h
theorem dV{a b:DV}{p q:PV}{g:PX}{v:DV}(ha:EV a p)(hb:EV b q)(h:Ua a b=some (g,v)):M1 p q=some v.enc:=by
 unfold Ua at h;split at h
 · simp only[dI,Ah,Aj] at h;obtain⟨rfl,rfl⟩:=h;rw[ha.of (by simp),hb.of (by simp)];simp only[DV.enc,M1,j3]
 · cases h
theorem dS{a b:DV}{p q:PV}{g:PX}{v:DV}(ha:EV a p)(hb:EV b q)(h:Ue a b=some (g,v)):Nk p q=some v.enc:=by
 unfold Ue at h;split at h
 · simp only[dI,Ah,Aj] at h;obtain⟨rfl,rfl⟩:=h;rw[ha.of (by simp),hb.of (by simp)];simp only[DV.enc,Nk,Tz]
 · cases h
theorem land_den(a b:PX):(a.land b).den↔a.den∧b.den:=by
 cases a<;>cases b<;>simp[PX.land,PX.den]
theorem Oy{d:Nat}{x:Option DV}{y:Option PV}{g:PX}{n:Nat}(hx:match x,y with|none,none=>True|some v,some p=>EV v p|_,_=>False)(h:FH d x=some (g,n))(hg:g.den):Hg d y=some n:=by
 cases x with
 | none=>
   cases y with
   |none=>simp only[FH,Ah,Aj] at h;rw[← h.2];rfl
   |some p=>cases hx
 | some v=>
   cases y with
   |none=>cases hx
   | some p=>
     cases v<;>simp only[FH,Ah,Aj,reduceCtorEq] at h;obtain⟨rfl,rfl⟩:=h;rw[EV.of hx (by simp)];simp only[DV.enc,Hg,TB];exact Ab hg
theorem bI{lo hi:Option DV}{lo' hi':Option PV}{a:DV}{p:PV}{g:PX}{v:DV}(hl:match lo,lo' with|none,none=>True|some v,some p=>EV v p|_,_=>False)(hh:match hi,hi' with|none,none=>True|some v,some p=>EV v p|_,_=>False)(ha:EV a p)(h:Sw lo hi a=some (g,v))(hg:g.den):Ml lo' hi' p=some v.enc:=by
 cases a<;>try (simp only[Sw,reduceCtorEq] at h)
 case str t=>
  rw[ha.of (by simp)]
  cases h1:FH 0 lo with
  |none=>rw[h1] at h;cases h
  | some x=>
    cases h2:FH (lN t) hi with
    |none=>rw[h1,h2] at h;cases h
    | some y=>
      obtain⟨g1,a⟩:=x;obtain⟨g2,b⟩:=y;rw[h1,h2] at h;simp only[Ah,Aj] at h;obtain⟨rfl,rfl⟩:=h;rw[land_den,land_den] at hg;have e1:=Oy hl h1 hg.1.1;have e2:=Oy hh h2 hg.1.2;simp only[Nl] at e2;simp only[DV.enc,Ml,e1,e2,Tg];exact Ab hg.2
theorem cx{w:Nat}{x:Opnd}{lo hi:Option DV}{lo' hi':Option PV}{a:DV}{p:PV}{g:PX}{v:DV}(hl:match lo,lo' with|none,none=>True|some v,some p=>EV v p|_,_=>False)(hh:match hi,hi' with|none,none=>True|some v,some p=>EV v p|_,_=>False)(ha:EV a p)(h:Tb w x lo hi a=some (g,v))(hg:g.den):Mv w x lo' hi' p=some v.enc:=by
 cases a<;>try (simp only[Tb,reduceCtorEq] at h)
 case sl q r t=>
  rw[ha.of (by simp)]
  cases h1:FH 0 lo with
  |none=>rw[h1] at h;cases h
  | some x1 =>
    cases h2:FH (lN t) hi with
    |none=>rw[h1,h2] at h;cases h
    | some y=>
      obtain⟨g1,a⟩:=x1;obtain⟨g2,b⟩:=y;rw[h1,h2] at h;simp only at h;by_cases hw:(r.w == w)=true
      · rw[Ab hw] at h
        have hw':r.w=w:=by simpa using hw
        subst hw'
        cases hq:Zg x lo.isNone q with
        |none=>rw[hq] at h;cases h
        | some q'=>
          rw[hq] at h;simp only[Ah,Aj] at h;obtain⟨rfl,rfl⟩:=h;rw[land_den,land_den] at hg;have e1:=Oy hl h1 hg.1.1;have e2:=Oy hh h2 hg.1.2;simp only[Nl] at e2
          have hz:Dv x (if lo'.isNone=true then 0 else 1) q=some q':=by
           have:lo'.isNone=lo.isNone:=by cases lo<;>cases lo'<;>first|rfl|exact hl.elim
           rw[this];exact hq
          simp only[DV.enc,Mv,Bg,e1,e2,Tg,hz];rw[Ab ⟨hg.2.1,hg.2.2.1,hg.2.2.2,DI r t⟩,List.map_take,List.map_drop];rfl
      · rw[Ad hw] at h;cases h
theorem gQ(hd:Hd)(p:List Nat)(v:DV):(TO hd p v).enc=BM hd p v.enc:=by
 cases v<;>first|rfl|skip
 case nil q=>cases q<;>rfl
 case sl q r l=>cases q<;>rfl
theorem Mc(hd:Hd):∀ (n:Nat) (l:List DV),DV.encL (Gt hd n l)=EW hd n (DV.encL l)
 |_,[]=>rfl
 |n,v::r=>by simp only[Gt,DV.encL,EW,gQ,Mc hd (n+1) r]
theorem Km{n:Option Nat}{cs:List DV}{v:DV}(h:DK n cs=some v):CI n (DV.encL cs)=some v.enc:=by
 cases n with
 |some n=>simp only[DK,Ah] at h;subst h;rfl
 | none=>match cs,h with
   |[x],h=>simp only[DK,Ah] at h;subst h;rfl
theorem cA{off:Nat}{n:Option Nat}{x:Opnd}{a:DV}{p:PV}{g:PX}{v:DV}(ha:EV a p)(h:Ts off n x a=some (g,v)):Ms off n x p=some v.enc:=by
 cases a<;>try (simp only[Ts,reduceCtorEq] at h)
 case agg cs=>
  rw[ha.of (by simp)]
  cases x with
  |c _=>cases h
  | t t =>
    simp only at h;by_cases hc:(Nat.ble (off+n.getD 1) cs.length&&DV.okL (Bp cs off (n.getD 1)))=true
    · rw[Ab hc] at h;rw[Ai] at hc
      cases hv:DK n (Gt (.s t) off (Bp cs off (n.getD 1))) with
      |none=>rw[hv] at h;cases h
      | some w=>
        rw[hv] at h;simp only[Bw,Ah,Aj] at h;obtain⟨rfl,rfl⟩:=h;have:=Km hv;rw[Mc,OY] at this;simp only[DV.enc,Ms,Dm];rw[Ab (BR hc.1)];exact this
    · rw[Ad hc] at h;cases h
theorem cG:∀ {r:RT} {l:List r.D} {s:List UInt8},Qe r l=some s→Bs (l.map (RT.enc r))=some s
 | .one (.int .u8),l,s,h=>by
   simp only[Qe,Ah] at h
   subst h
   refine Eq.trans ?_ (congrArg some (Yj l).symm)
   induction l with
   |nil=>rfl
   | cons x l ih=>
     show (Bs (l.map (RT.enc (.one (.int .u8))))).map (fun s=>UInt8.ofNat (Int.toNat x)::s)=_
     rw[ih];rfl
theorem dE{a:DV}{p:PV}{g:PX}{v:DV}(ha:EV a p)(h:T4 a=some (g,v)):MR p=some v.enc:=by
 cases a<;>try (simp only[T4,reduceCtorEq] at h)
 case nil q=>
  rw[ha.of (by simp)];simp only[DA,Ah,Aj] at h;obtain⟨rfl,rfl⟩:=h;rfl
 case sl q r l=>
  rw[ha.of (by simp)]
  cases hs:Qe r l with
  |none=>rw[hs] at h;cases h
  | some s=>
    rw[hs] at h;simp only[Bw,Ah,Aj] at h;obtain⟨rfl,rfl⟩:=h;simp only[DV.enc,MR,cG hs,Bw]
theorem US:∀ {a b:List DV} {t:BX},HQ a b=some t→∃ x y,CN (DV.encL a)=some x∧CN (DV.encL b)=some y∧x.length=a.length∧y.length=b.length∧x.all V.flat=true∧y.all V.flat=true∧CD x y=some t.b
 | [],[],t,h=>by
   simp only[HQ,Ah] at h;subst h;exact⟨[],[],rfl,rfl,rfl,rfl,rfl,rfl,rfl⟩
 | .int k a::x,.int k' b::y,t,h=>by
   unfold HQ at h;by_cases hk:IntKind.same k k'=true
   · rw[Ab hk] at h;have:=PD hk;subst this
     have key:∀ t',HQ x y=some t'→t.b=((a == b)&&t'.b)→∃ x1 y1,CN (DV.encL (.int k a::x))=some x1∧CN (DV.encL (.int k b::y))=some y1∧x1.length=(DV.int k a::x).length∧y1.length=(DV.int k b::y).length∧x1.all V.flat=true∧y1.all V.flat=true∧CD x1 y1=some t.b:=by
      intro t' ht hb;obtain⟨x1,y1,h1,h2,h3,h4,h5,h6,h7⟩:=US ht;refine⟨.int k a::x1,.int k b::y1,?_,?_,by simp[h3],by simp[h4],?_,?_,?_⟩
      · simp only[DV.encL,DV.enc,CN,h1]
      · simp only[DV.encL,DV.enc,CN,h2]
      · simp only[Ea,V.flat,h5,B9]
      · simp only[Ea,V.flat,h6,B9]
      · simp only[CD,K4,Az]
        cases hab:(a == b) with
        |true=>simp only[h7,hb,hab,Qb]
        |false=>simp only[hb,hab,Qs]
     split at h
     · simp only[Ah] at h;subst h;exact key (.lit true) rfl (by simp only[BX.b,Qx,Jr])
     · cases ht:HQ x y with
       |none=>rw[ht] at h;cases h
       | some t'=>
         rw[ht] at h;simp only[Bw,Ah] at h;subst h;exact key t' ht (by simp only[BX.b,Qx,S5])
   · rw[Ad hk] at h;cases h
theorem dX{n:Nat}{neg:Bool}{a b:DV}{p q:PV}{g:PX}{v:DV}(ha:EV a p)(hb:EV b q)(h:QD n neg a b=some (g,v)):Ni n neg p q=some v.enc:=by
 cases a<;>try (simp only[QD,reduceCtorEq] at h)
 case agg a=>
  cases b<;>try (simp only[QD,reduceCtorEq] at h)
  case agg b=>
   rw[ha.of (by simp),hb.of (by simp)];by_cases hl:(a.length == n&&b.length == n)=true
   · rw[Ab hl] at h;rw[Ai,AA,AA] at hl
     cases ht:HQ a b with
     |none=>rw[ht] at h;cases h
     | some t=>
       rw[ht] at h;simp only[DA,Ah,Aj] at h;obtain⟨rfl,rfl⟩:=h;obtain⟨x,y,h1,h2,h3,h4,h5,h6,h7⟩:=US ht;simp only[DV.enc,Ni,h1,h2];rw[Ab ⟨h3.trans hl.1,h4.trans hl.2,h5,h6⟩,h7];cases neg<;>simp only[Bw,Az,As,AB,TE]
   · rw[Ad hl] at h;cases h
theorem PJ{d:DS}{s:PS}(h:ES d s)(x:Option Opnd):match x.map (fun x=>x.dev d.sl),x.map (fun x=>x.pev s.sl) with|none,none=>True|some v,some p=>EV v p|_,_=>False:=by
 cases x with
 |none=>exact trivial
 |some x=>exact x.dev_ev h
theorem C4{s:PS}{o:Option PV}{v:PV}(h:o=some v):B8 s o=some (v,s):=by rw[h];rfl
theorem dg{d:DS}{s:PS}{o:AOp}{m:Bool}{g:PX}{v:DV}(hs:ES d s)(h:Lc o (fun x=>x.dev d.sl)=some (g,v))(hg:g.den):AV m o s=some (v.enc,s):=by
 have E:=fun x=>Opnd.dev_ev hs x
 cases o<;>simp only[Lc,reduceCtorEq] at h<;>simp only[AV]
 case nilck x=>exact C4 (cy (E x) h)
 case bin op x y=>exact C4 (dO (E x) (E y) h hg)
 case eqB neg x y=>exact C4 (eu (E x) (E y) h)
 case eqN neg x y=>
  split at h
  · exact C4 (eF (E x) h)
  · cases h
 case eqA n neg x y=>exact C4 (dX (E x) (E y) h)
 case un op x=>exact C4 (eU (E x) h)
 case conv k x=>exact C4 (dk (E x) h)
 case bstr x=>exact C4 (dE (E x) h)
 case slice w x lo hi=>exact C4 (cx (PJ hs lo) (PJ hs hi) (E x) h hg)
 case substr x lo hi=>exact C4 (bI (PJ hs lo) (PJ hs hi) (E x) h hg)
 case fieldA off a=>exact C4 (bK (E a) h)
 case field off n x=>exact C4 (cA (E x) h)
 case indexA w x i=>exact C4 (bV (E x) (E i) h hg)
 case index x i=>exact C4 (cC (E x) (E i) h hg)
 case len x=>exact C4 (dY (E x) h)
 case lenT x=>exact C4 (de (E x) h)
 case minI x y=>exact C4 (dV (E x) (E y) h)
 case maxI x y=>exact C4 (dS (E x) (E y) h)
theorem Sp:∀ (l:List DV),DV.okL l=true→EL (news (Lg l)) (BV (DV.encL l))
 |[],_=>trivial
 | v::r,h=>by
   simp only[DV.okL,Ai] at h
   refine⟨?_,Sp r h.2⟩
   simp only[G6]
   by_cases ho:v.own=true
   · rw[Ab ho,Ab ho];exact .inl rfl
   · rw[Ad ho,Ad ho];exact .inr rfl
theorem EL.spliceE:∀ {a:List DC} {b:List PV} (n:Nat) {vs:List DV} {ps:List PV},EL a b→EL (Go.Ag.news vs) ps→EL (Gd a n vs) (Ao b n ps)
 |[],[],_,[],[],_,_=>trivial
 |[],[],_,_::_,_::_,_,_=>trivial
 |_::_,_::_,0,[],[],h,_=>h
 |_::_,_::_,_+1,[],[],h,_=>h
 |_::_,_::_,0,_::_,_::_,h,hv=>⟨hv.1,EL.spliceE 0 h.2 hv.2⟩
 |_::_,_::_,n+1,_::_,_::_,h,hv=>⟨h.1,EL.spliceE n h.2 hv⟩
theorem EBx.to{a:List DC}{b:List PV}(h:EBx a b)(hn:0<a.length):EL a b:=by
 rcases h with rfl|h
 · exact absurd hn (Nat.lt_irrefl 0)
 · exact h
theorem EBx.segm{a:List DC}{b:List PV}{o n:Nat}(h:EBx a b)(hl:o+n≤a.length)(hk:DV.okL (Bp (A4 a) o n)=true):o+n≤b.length∧Go.Ag.segm b o n=DV.encL (Bp (A4 a) o n):=by
 rcases h with rfl|h
 · have h0:o=0∧n=0:=by simp only[AY] at hl;omega
   rw[h0.1,h0.2];exact⟨Ig _,by cases b<;>rfl⟩
 · exact⟨by rw[← h.len];exact hl,h.segm o n hk⟩
theorem EBx.splice{a:List DC}{b:List PV}{o:Nat}{vs:List DV}{ps:List PV}(h:EBx a b)(hv:EL (news vs) ps)(hl:o+vs.length≤a.length):EBx (Gd a o vs) (Ao b o ps):=by
 rcases h with rfl|h
 · have h0:vs=[]:=by
    cases vs with
    |nil=>rfl
    |cons _ _=>simp only[AX,AY] at hl;omega
   subst h0;exact .inl rfl
 · exact .inr (h.spliceE o hv)
theorem O1:∀ (l:List DV) (o n:Nat),o+n≤l.length→(Bp l o n).length=n
 |[],0,0,_=>rfl
 |[],0,_+1,h=>by simp only[AY] at h;omega
 |[],_+1,_,h=>by simp only[AY] at h;omega
 |_::_,0,0,_=>rfl
 |_::r,0,n+1,h=>by simp only[Bp,AX] at h ⊢;rw[O1 r 0 n (by omega)]
 |_::r,o+1,n,h=>by simp only[Bp,AX] at h ⊢;exact O1 r o n (by omega)
theorem RA:∀ (l:List DV),(Lg l).length=l.length
 |[]=>rfl
 |_::r=>by simp only[Lg,AX,RA r]
theorem Vk{m:Bool}{i:Nat}{n:Option Nat}{a:DV}{p:PV}{d d':DS}{s:PS}{g:PX}{v:DV}(hs:ES d s)(ha:EV a p)(h:Jh m i n a d=some (g,v,d')):∃ s',I3 m i n p s=some (v.enc,s')∧ES d' s':=by
 cases a<;>try (simp only[Jh,reduceCtorEq] at h)
 case box j o=>
  rw[ha.of (by simp)];by_cases hc:(i == j&&Nat.ble (o+n.getD 1) (A9 d.bx i).length&&DV.okL (Bp (A4 (A9 d.bx i)) o (n.getD 1)))=true
  · rw[Ab hc] at h;rw[Ai,Ai,AA] at hc;obtain⟨⟨rfl,hl⟩,hk⟩:=hc;have hl:=BR hl;obtain⟨h1,h2⟩:=(hs.bx.get i).segm hl hk;simp only[DV.enc,I3];rw[Ab ⟨trivial,h1⟩,h2]
    cases m with
    | true=>
      simp only[Az] at h ⊢
      cases hv:DK n (Bp (A4 (A9 d.bx i)) o (n.getD 1)) with
      |none=>rw[hv] at h;cases h
      | some w=>
        rw[hv] at h;simp only[Bw,Ah,Aj] at h;obtain⟨_,rfl,rfl⟩:=h;rw[Km hv];refine⟨_,rfl,hs.sl.clr _,hs.bx.put i ((hs.bx.get i).splice (Sp _ hk) ?_),hs.hp⟩;rw[RA,O1 _ _ _ (by rw[Me];exact hl)];exact hl
    | false=>
      simp only[As,AB] at h ⊢
      cases hv:DK n (Gt (.b i) o (Bp (A4 (A9 d.bx i)) o (n.getD 1))) with
      |none=>rw[hv] at h;cases h
      | some w=>
        rw[hv] at h;simp only[Bw,Ah,Aj] at h;obtain⟨_,rfl,rfl⟩:=h;have:=Km hv;rw[Mc] at this;rw[this];exact⟨_,rfl,hs⟩
  · rw[Ad hc] at h;cases h
theorem YJ{q q':Ql}(h:Lm q=some q'):∀ (t:CT) (x:t.D),(CT.dv q' t x).enc=Hp q (CT.enc t x)
 |.int _,_|.bool,_|.str,_=>by cases q<;>rfl
 |.ifc,_=>by cases q<;>rfl
 |.sl r,l=>by cases q<;>simp only[Lm,Ah,reduceCtorEq] at h<;>subst h<;>rfl
theorem Yw{q q':Ql}(h:Lm q=some q'):∀ (r:RT) (x:r.D),DV.encL (r.dv q' x)=DY q (RT.enc r x)
 |.one t,x=>by simp only[RT.dv,DV.encL,RT.enc,DY,YJ h t x]
 |.cons t r,x=>by simp only[RT.dv,DV.encL,RT.enc,DY,YJ h t x.1,Yw h r x.2]
theorem E8(r:RT):∀ (l:List r.D) (j:Nat),j<l.length→Aw (l.map (RT.enc r)) j=RT.enc r (l.getD j r.dflt)
 |_::_,0,_=>rfl
 |_::l,j+1,h=>E8 r l j (by simpa using h)
theorem RG(q:Ql):∀ (l:List PV) (o n:Nat),DY q (Go.Ag.segm l o n)=Go.Ag.segm (DY q l) o n
 |[],0,0=>rfl
 |[],0,_+1=>rfl
 |[],_+1,_=>rfl
 |_::_,0,0=>rfl
 |c::r,0,n+1=>by simp only[Go.Ag.segm,DY,RG q r 0 n]
 |_::r,o+1,n=>by simp only[Go.Ag.segm,DY];exact RG q r o n
theorem dW{q q':Ql}(h:Lm q=some q'):q.isOwn=false:=by cases q<;>first|rfl|cases h
theorem Vi{m:Bool}{n:Option Nat}{a:DV}{p:PV}{d d':DS}{s:PS}{g:PX}{v:DV}(hs:ES d s)(ha:EV a p)(h:Ia m n a d=some (g,v,d'))(hg:g.den):∃ s',H6 m n p s=some (v.enc,s')∧ES d' s':=by
 cases a<;>try (simp only[Ia,reduceCtorEq] at h)
 case ep q r l j o=>
  rw[ha.of (by simp)]
  cases hq:Lm q with
  |none=>rw[hq] at h;cases h
  | some q'=>
    rw[hq] at h;simp only at h;by_cases hc:Nat.ble (o+n.getD 1) r.w=true
    · rw[Ab hc] at h
      cases hv:DK n (Bp (r.dv q' (lGet l j r.dflt)) o (n.getD 1)) with
      |none=>rw[hv] at h;cases h
      | some w=>
        rw[hv] at h;simp only[Bw,Ah,Aj] at h;obtain⟨rfl,rfl,rfl⟩:=h;have hj:j<l.length:=hg;have:=Km hv;rw[OY,Yw hq,← RG,KO,← E8 r l j hj] at this;simp only[DV.enc,H6,Bg];rw[Ab ⟨hj,by rw[E8 r l j hj,H8];exact BR hc,dW hq⟩,this];exact⟨_,rfl,hs⟩
    · rw[Ad hc] at h;cases h
 case ptr i o=>
  rw[ha.of (by simp)];by_cases hc:(Nat.blt i d.hp.length&&Nat.ble (o+n.getD 1) (A9 d.hp i).length&&DV.okL (Bp (A4 (A9 d.hp i)) o (n.getD 1)))=true
  · rw[Ab hc] at h;rw[Ai,Ai] at hc;obtain⟨⟨hi,hl⟩,hk⟩:=hc;have hi:=BR hi;have hl:=BR hl;obtain⟨h1,h2⟩:=(hs.hp.get i).segm hl hk;simp only[DV.enc,H6];rw[Ab ⟨by rw[← hs.hp.len];exact hi,h1⟩,h2]
    cases m with
    | true=>
      simp only[Az] at h ⊢
      cases hv:DK n (Bp (A4 (A9 d.hp i)) o (n.getD 1)) with
      |none=>rw[hv] at h;cases h
      | some w=>
        rw[hv] at h;simp only[Bw,Ah,Aj] at h;obtain⟨_,rfl,rfl⟩:=h;rw[Km hv];refine⟨_,rfl,hs.sl.clr _,hs.bx,hs.hp.put i ((hs.hp.get i).splice (Sp _ hk) ?_)⟩;rw[RA,O1 _ _ _ (by rw[Me];exact hl)];exact hl
    | false=>
      simp only[As,AB] at h ⊢
      cases hv:DK n (Gt (.h i) o (Bp (A4 (A9 d.hp i)) o (n.getD 1))) with
      |none=>rw[hv] at h;cases h
      | some w=>
        rw[hv] at h;simp only[Bw,Ah,Aj] at h;obtain⟨_,rfl,rfl⟩:=h;have:=Km hv;rw[Mc] at this;rw[this];exact⟨_,rfl,hs⟩
  · rw[Ad hc] at h;cases h
theorem EL.clrD(hd:Hd):∀ {a:List DC} {b:List PV},EL a b→EL (Cj hd a) b
 |[],[],_=>trivial
 | c::_,p::_,h=>by
   refine⟨?_,EL.clrD hd h.2⟩
   by_cases hb:c.v.bor hd=true
   · rw[Ab hb];exact .inl rfl
   · rw[Ad hb];exact h.1
theorem EL.clr2{hd:Hd}{a:List DC}{b:List PV}{x:Bool}{y:Bool}(h:EL a b)(hxy:x=false→y=false):EL (if x then Cj hd a else a) (if y then Go.Ag.clr hd b else b):=by
 cases x with
 |false=>rw[hxy rfl];exact h
 | true=>cases y with
   |false=>exact h.clrD hd
   |true=>exact h.clr hd
theorem bM{i n:Nat}{a x:Opnd}{d d':DS}{s:PS}{g:PX}{v:DV}(hs:ES d s)(h:Mx i n a x d=some (g,v,d')):∃ s',Mg i n a x s=some (v.enc,s')∧ES d' s':=by
 unfold Mx at h;have ha:=a.dev_ev hs;generalize hm:AG x d=w at h;obtain⟨w,d1⟩:=w;simp only at h;generalize a.dev d.sl=av at h ha
 cases av<;>try (simp only[reduceCtorEq] at h)
 case box j o=>
  by_cases hc:(i == j&&Nat.blt i d1.bx.length&&w.cells.length == n&&Nat.ble (o+n) (A9 d1.bx i).length&&Cd w.cells)=true
  · rw[Ab hc] at h;simp only[Ai,AA] at hc;obtain⟨⟨⟨⟨rfl,hi⟩,rfl⟩,hl⟩,hcl⟩:=hc;have hi:=BR hi;have hl:=BR hl;have hok:=L7 w hcl;obtain⟨m1,m2⟩:=Dl x hs (by rw[hm];exact hok);rw[hm] at m1 m2;simp only[Ah,Aj] at h;obtain⟨rfl,rfl,rfl⟩:=h;have hbx:=m2.bx.get i
    have hel:o+w.cells.length≤(Ak (mvOut x s).2.bx i).length:=by
     rcases hbx with he|he
     · rw[he] at hl;simp only[AY] at hl;omega
     · rw[← he.len];exact hl
    simp only[Mg,ha.of (by simp:DV.box i o≠.any),DV.enc,m1,G0,Dm,G6];rw[Ab ⟨trivial,by rw[← m2.bx.len];exact hi,trivial,hel,IW _ hcl⟩];refine⟨_,rfl,m2.sl.clr2 fun hx=>?_,m2.bx.put i (hbx.splice (EL.news w.cells) hl),m2.hp⟩;simp only[CK,FU] at hx ⊢;rw[(hbx.segm hl hx.1.1).2,KB];exact⟨hx.1.2,hx.2⟩
  · rw[Ad hc] at h;cases h
theorem Pb{r' r:RT}{l:List r'.D}{m:List r.D}(h:Jw l=some m):r'=r∧l.map (RT.enc r')=m.map (RT.enc r):=by
 unfold Jw at h;split at h
 · rename_i hb;have hr:=RT.beq_eq hb;subst hr;simp only[Ah] at h;subst h;exact⟨rfl,rfl⟩
 · cases h
theorem Zb:∀ {t:CT} {v:DV} {x:t.D},t.of v=some x→v.enc=CT.enc t x
 | .int k,.int k' n,x,h=>by
   have h':(if k=k' then some n else none)=some x:=h
   by_cases hk:k=k'
   · subst hk
     rw[Ab rfl] at h'
     have:n=x:=BQ h'
     rw[← this];rfl
   · rw[Ad hk] at h';cases h'
 | .bool,.bool b,x,h=>by
   have:b.b=x:=BQ h
   rw[← this];rfl
 | .str,.str s,x,h=>by
   have:s=x:=BQ h
   rw[← this];rfl
 | .ifc,.ifc b,x,h=>by
   have:b=x:=BQ h
   rw[← this];rfl
 | .sl r,.nil .own,x,h=>by
   have:([]:List r.D)=x:=BQ h
   rw[← this];rfl
 | .sl r,.sl .own r' l,x,h=>by
   show PV.sl .own _=PV.sl .own _
   rw[(Pb (r:=r) h).2]
theorem Ld:∀ {r:RT} {vs:List DV} {x:r.D},r.of vs=some x→DV.encL vs=RT.enc r x
 |.one t,[v],x,h=>by simp only[DV.encL,RT.enc,Zb (t:=t) h]
 | .cons t r,v::vs,x,h=>by
   have h':(match t.of v,r.of vs with|some x,some y=>some (x,y)|_,_=>none)=some x:=h
   clear h
   cases h1:t.of v with
   |none=>rw[h1] at h';cases h'
   | some a=>
     cases h2:r.of vs with
     |none=>rw[h1,h2] at h';cases h'
     | some b=>
       rw[h1,h2] at h'
       have:(a,b)=x:=BQ h'
       rw[← this]
       simp only[DV.encL,RT.enc,Zb h1,Ld h2]
theorem Yy:∀ (t:CT) (x:t.D),(CT.dv .own t x).enc=CT.enc t x
 |.int _,_|.bool,_|.str,_|.ifc,_|.sl _,_=>rfl
theorem P8:∀ (r:RT) (x:r.D),DV.encL (r.dv .own x)=RT.enc r x
 |.one t,x=>by simp only[RT.dv,DV.encL,RT.enc,Yy t x]
 |.cons t r,x=>by simp only[RT.dv,DV.encL,RT.enc,Yy t x.1,P8 r x.2]
theorem Mb(r:RT):∀ (l:List r.D) (j:Nat) (y:r.D),AL (l.map (RT.enc r)) j (RT.enc r y)=(l.set j y).map (RT.enc r)
 |[],_,_=>rfl
 |_::_,0,_=>rfl
 |_::l,j+1,y=>by simp only[BE,AL,List.set_cons_succ,Mb r l j y]
theorem eR(v:DV)(p:List Nat)(h:v.fcell p≠.any):v.enc.fcell p=(v.fcell p).enc:=by
 cases v with
 | agg cs=>
   match p with
   |[]=>exact absurd rfl h
   |[c]=>exact(Ku cs c).symm
   |_::_::_=>exact absurd rfl h
 | tup vs=>
   match p with
   |[]=>exact absurd rfl h
   |[_]=>exact absurd rfl h
   | [i,c]=>
     show Aa (Aa (DV.encL vs) i).cells c=(EN (EN vs i).cells c).enc;rw[← Ku,G0,← Ku]
   |_::_::_::_=>exact absurd rfl h
 |any=>match p with|[]=>exact absurd rfl h|[0]=>exact absurd rfl h|[_+1]=>exact absurd rfl h|0::_::_=>exact absurd rfl h|(_+1)::_::_=>exact absurd rfl h
 |undef=>match p with|[]=>exact absurd rfl h|[0]=>rfl|[_+1]=>exact absurd rfl h|0::_::_=>exact absurd rfl h|(_+1)::_::_=>exact absurd rfl h
 |bool _=>match p with|[]=>exact absurd rfl h|[0]=>rfl|[_+1]=>exact absurd rfl h|0::_::_=>exact absurd rfl h|(_+1)::_::_=>exact absurd rfl h
 |int _ _=>match p with|[]=>exact absurd rfl h|[0]=>rfl|[_+1]=>exact absurd rfl h|0::_::_=>exact absurd rfl h|(_+1)::_::_=>exact absurd rfl h
 |str _=>match p with|[]=>exact absurd rfl h|[0]=>rfl|[_+1]=>exact absurd rfl h|0::_::_=>exact absurd rfl h|(_+1)::_::_=>exact absurd rfl h
 |ifc _=>match p with|[]=>exact absurd rfl h|[0]=>rfl|[_+1]=>exact absurd rfl h|0::_::_=>exact absurd rfl h|(_+1)::_::_=>exact absurd rfl h
 |nil _=>match p with|[]=>exact absurd rfl h|[0]=>rfl|[_+1]=>exact absurd rfl h|0::_::_=>exact absurd rfl h|(_+1)::_::_=>exact absurd rfl h
 |sl _ _ _=>match p with|[]=>exact absurd rfl h|[0]=>rfl|[_+1]=>exact absurd rfl h|0::_::_=>exact absurd rfl h|(_+1)::_::_=>exact absurd rfl h
 |ep _ _ _ _ _=>match p with|[]=>exact absurd rfl h|[0]=>rfl|[_+1]=>exact absurd rfl h|0::_::_=>exact absurd rfl h|(_+1)::_::_=>exact absurd rfl h
 |box _ _=>match p with|[]=>exact absurd rfl h|[0]=>rfl|[_+1]=>exact absurd rfl h|0::_::_=>exact absurd rfl h|(_+1)::_::_=>exact absurd rfl h
 |ptr _ _=>match p with|[]=>exact absurd rfl h|[0]=>rfl|[_+1]=>exact absurd rfl h|0::_::_=>exact absurd rfl h|(_+1)::_::_=>exact absurd rfl h
theorem Fy{d:DS}{s:PS}(hs:ES d s)(hd:Hd)(p:List Nat)(h:Bt d hd p≠.any):BS s hd p=(Bt d hd p).enc:=by
 cases hd with
 | s t=>
   rcases hs.sl.get t with hg|hg
   · simp only[Bt,hg] at h;refine absurd ?_ h
     match p with
     |[]=>rfl
     |[0]=>rfl
     |[_+1]=>rfl
     |0::_::_=>rfl
     |(_+1)::_::_=>rfl
   · simp only[Bt,BS,hg] at h ⊢;exact eR _ p h
 | b i=>
   match p with
   |[]=>exact absurd rfl h
   |_::_::_=>exact absurd rfl h
   | [c]=>
     rcases hs.bx.get i with hb|hb
     · simp only[Bt,hb,AR] at h;exact absurd rfl h
     · exact(hb.get c).of h
 | h i=>
   match p with
   |[]=>exact absurd rfl h
   |_::_::_=>exact absurd rfl h
   | [c]=>
     rcases hs.hp.get i with hb|hb
     · simp only[Bt,hb,AR] at h;exact absurd rfl h
     · exact(hb.get c).of h
 |x i=>exact absurd rfl h
theorem iF(v:DV)(p:List Nat)(w:DV):v.enc.setc p w.enc=(v.setc p w).enc:=by
 cases v with
 | agg cs=>
   match p with
   |[]=>rfl
   |[c]=>exact congrArg PV.agg (Ph cs c w).symm
   |_::_::_=>rfl
 | tup vs=>
   match p with
   |[]=>rfl
   |[0]=>rfl
   |[_+1]=>rfl
   |0::_::_=>rfl
   |(_+1)::_::_=>rfl
 |any=>match p with|[]=>rfl|[0]=>rfl|[_+1]=>rfl|0::_::_=>rfl|(_+1)::_::_=>rfl
 |undef=>match p with|[]=>rfl|[0]=>rfl|[_+1]=>rfl|0::_::_=>rfl|(_+1)::_::_=>rfl
 |bool _=>match p with|[]=>rfl|[0]=>rfl|[_+1]=>rfl|0::_::_=>rfl|(_+1)::_::_=>rfl
 |int _ _=>match p with|[]=>rfl|[0]=>rfl|[_+1]=>rfl|0::_::_=>rfl|(_+1)::_::_=>rfl
 |str _=>match p with|[]=>rfl|[0]=>rfl|[_+1]=>rfl|0::_::_=>rfl|(_+1)::_::_=>rfl
 |ifc _=>match p with|[]=>rfl|[0]=>rfl|[_+1]=>rfl|0::_::_=>rfl|(_+1)::_::_=>rfl
 |nil _=>match p with|[]=>rfl|[0]=>rfl|[_+1]=>rfl|0::_::_=>rfl|(_+1)::_::_=>rfl
 |sl _ _ _=>match p with|[]=>rfl|[0]=>rfl|[_+1]=>rfl|0::_::_=>rfl|(_+1)::_::_=>rfl
 |ep _ _ _ _ _=>match p with|[]=>rfl|[0]=>rfl|[_+1]=>rfl|0::_::_=>rfl|(_+1)::_::_=>rfl
 |box _ _=>match p with|[]=>rfl|[0]=>rfl|[_+1]=>rfl|0::_::_=>rfl|(_+1)::_::_=>rfl
 |ptr _ _=>match p with|[]=>rfl|[0]=>rfl|[_+1]=>rfl|0::_::_=>rfl|(_+1)::_::_=>rfl
theorem EBx.put{a:List DC}{b:List PV}{v:DV}{p:PV}(n:Nat)(h:EBx a b)(hv:EV v p):EBx (Ci a n v) (Bb b n p):=by
 rcases h with rfl|h
 · exact .inl rfl
 · exact .inr (h.put n hv)
theorem IL{d:DS}{s:PS}(hs:ES d s)(hd:Hd)(p:List Nat)(w:DV)(h:Bt d hd p≠.any):ES (EG d w hd p) (setK s w.enc hd p):=by
 cases hd with
 | s t=>
   refine⟨(hs.sl.put t (.inr ?_)).clr _,hs.bx,hs.hp⟩;rcases hs.sl.get t with hg|hg
   · simp only[Bt,hg] at h;refine absurd ?_ h
     match p with
     |[]=>rfl
     |[0]=>rfl
     |[_+1]=>rfl
     |0::_::_=>rfl
     |(_+1)::_::_=>rfl
   · rw[hg];exact iF _ p w
 | b i=>
   match p with
   |[]=>exact absurd rfl h
   |_::_::_=>exact absurd rfl h
   |[c]=>exact⟨hs.sl.clr _,hs.bx.put i ((hs.bx.get i).put c (.inr rfl)),hs.hp⟩
 | h i=>
   match p with
   |[]=>exact absurd rfl h
   |_::_::_=>exact absurd rfl h
   |[c]=>exact⟨hs.sl.clr _,hs.bx,hs.hp.put i ((hs.hp.get i).put c (.inr rfl))⟩
 |x i=>exact absurd rfl h
theorem b9{n:Nat}{a x:Opnd}{d d':DS}{s:PS}{g:PX}{v:DV}(hs:ES d s)(h:My n a x d=some (g,v,d'))(hg:g.den):∃ s',Mi n a x s=some (v.enc,s')∧ES d' s':=by
 unfold My at h;generalize hm:AG x d=w at h;obtain⟨w,d1⟩:=w;simp only at h
 have hw:Cd w.cells=true→ES d1 (mvOut x s).2∧(mvOut x s).1=w.enc:=fun hcl=>by
  obtain⟨m1,m2⟩:=Dl x hs (by rw[hm];exact L7 w hcl);rw[hm] at m1 m2;exact⟨m2,m1⟩
 split at h
 · rename_i i o ha;by_cases hc:(Nat.blt i d1.hp.length&&w.cells.length == n&&Nat.ble (o+n) (A9 d1.hp i).length&&Cd w.cells)=true
   · rw[Ab hc] at h;simp only[Ai,AA] at hc;obtain⟨⟨⟨hi,rfl⟩,hl⟩,hcl⟩:=hc;have hi:=BR hi;have hl:=BR hl;obtain⟨m2,m1⟩:=hw hcl;have ha':=a.dev_ev m2;rw[ha] at ha';simp only[Ah,Aj] at h;obtain⟨rfl,rfl,rfl⟩:=h;have hbx:=m2.hp.get i
     have hel:o+w.cells.length≤(Ak (mvOut x s).2.hp i).length:=by
      rcases hbx with he|he
      · rw[he] at hl;simp only[AY] at hl;omega
      · rw[← he.len];exact hl
     simp only[Mi,ha'.of (by simp:DV.ptr i o≠.any),DV.enc,m1,G0,Dm,G6];rw[Ab ⟨by rw[← m2.hp.len];exact hi,trivial,hel,IW _ hcl⟩];refine⟨_,rfl,m2.sl.clr2 fun hx=>?_,m2.bx,m2.hp.put i (hbx.splice (EL.news w.cells) hl)⟩;simp only[CK,FU] at hx ⊢;rw[(hbx.segm hl hx.1.1).2,KB];exact⟨hx.1.2,hx.2⟩
   · rw[Ad hc] at h;cases h
 · rename_i hd p r0 l0 j o ha
   cases hk:Bt d1 hd [p]<;>rw[hk] at h<;>try (cases h;done)
   rename_i q r l
   cases q<;>try (cases h;done)
   simp only at h;by_cases hc:(w.cells.length == n&&Nat.ble (o+n) r.w&&Cd w.cells)=true
   · rw[Ab hc] at h;simp only[Ai,AA] at hc;obtain⟨⟨rfl,hl⟩,hcl⟩:=hc;have hl:=BR hl
     cases hof:r.of (Gc (r.dv .own (lGet l j r.dflt)) o w.cells) with
     |none=>rw[hof] at h;cases h
     | some y=>
       rw[hof] at h;simp only[Ah,Aj] at h;obtain⟨rfl,rfl,rfl⟩:=h;obtain⟨m2,m1⟩:=hw hcl;have ha':=a.dev_ev m2;rw[ha] at ha'
       have hne:Bt d1 hd [p]≠.any:=by rw[hk];simp
       have hj:j<l.length:=hg;have e1:=Fy m2 hd [p] hne;rw[hk] at e1;have e2:=Ld hof;rw[LU,P8,KO,← E8 r l j hj] at e2;have e3:=IL m2 hd [p] (.sl .own r (lSet l j y)) hne;simp only[Mi,ha'.of (by simp:DV.ep (.bor hd [p] true) r0 l0 j o≠.any),DV.enc,m1,G0,Dm,e1,Bg];rw[Ab ⟨hj,trivial,by rw[E8 r l j hj,H8];exact hl,IW _ hcl⟩,e2,Mb];simp only[DV.enc,MO] at e3;exact⟨_,rfl,by rw[MO];exact e3⟩
   · rw[Ad hc] at h;cases h
 · cases h
theorem Vq{m:Bool}{n:Option Nat}{a:DV}{p:PV}{d d':DS}{s:PS}{r:C5}{g:PX}{v:DV}(hs:ES d s)(ha:EV a p)(h:Gi m n a d=some r)(hr:r=some (g,v,d'))(hg:g.den):Fi m n p s=some (some v.enc)∧d'=d:=by
 unfold Gi at h;split at h
 · rename_i hd c r1 l j;simp only[Ah] at h;rw[hr] at h;split at h
   · rename_i r2 l2 hk;simp only[Ah,Aj] at h;obtain⟨rfl,rfl,rfl⟩:=h;obtain⟨g1,g2⟩:=hg
     have hne:Bt d hd [c]≠.any:=by rw[hk];simp
     have e1:=Fy hs hd [c] hne;rw[hk] at e1;have e2:Aw (List.map (RT.enc (.one (.sl r1))) l) j=[PV.sl .own (List.map (RT.enc r1) (List.getD (α:=List r1.D) l j []))]:=E8 (.one (.sl r1)) l j g1;have e3:Aw (List.map (RT.enc (.one (.sl r2))) l2) j=[PV.sl .own (List.map (RT.enc r2) (List.getD (α:=List r2.D) l2 j []))]:=E8 (.one (.sl r2)) l2 j g2;refine⟨?_,rfl⟩;rw[ha.of (by simp)];simp only[DV.enc,Fi,e1,Bg];rw[e2,Ab g2,e3];rw[show lGet (α:=List r2.D) l2 j []=List.getD (α:=List r2.D) l2 j [] from KO l2 j []]
   · cases h
 · cases h
theorem dF{m:Bool}{n:Option Nat}{a:DV}{p:PV}{d:DS}{s:PS}(ha:EV a p)(hne:a≠.any)(h:Gi m n a d=none):Fi m n p s=none:=by
 unfold Fi;split
 · rename_i hd c es j;have hp:=ha.of hne;cases a<;>simp only[DV.enc,PV.ep.injEq,reduceCtorEq] at hp;rename_i q r l j' o;obtain⟨rfl,rfl,rfl,rfl⟩:=hp;split
   · rename_i x he;rcases Bi j l.length with hj|hj
     · rw[E8 r l j hj] at he
       cases r with
       | one t=>
         cases t with
         |sl r1=>simp[Gi] at h
         |_=>simp only[RT.enc,CT.enc,Fe,reduceCtorEq,false_and] at he
       |cons t r=>cases r<;>simp[RT.enc] at he
     · have hz:Aw (l.map (RT.enc r)) j=[]:=by rw[Jd,A8 (by simpa using hj)];rfl
       rw[hz] at he;cases he
   · rfl
 · rfl
theorem fg{i c:Nat}{a:DV}{p:PV}(ha:EV a p)(hx:a.nestX i c=true):p.nestX i c=true:=by
 rw[ha.of (fun e=>by rw[e] at hx;cases hx)];unfold DV.nestX at hx;split at hx
 · exact hx
 · cases hx
theorem gB{a:DV}{p:PV}(ha:EV a p)(hne:a≠.any):p.nest=a.nest:=by
 rw[ha.of hne]
 cases a<;>try rfl
 rename_i q r l j o
 cases q<;>try rfl
 rename_i hd pt tp
 match pt,tp with
 |[],_=>cases tp<;>rfl
 |[_],_=>cases tp<;>rfl
 |[_,_],true=>rfl
 |[_,_],false=>rfl
 |_::_::_::_,_=>cases tp<;>rfl
theorem V7:∀ {vs:List DV},Jb vs=true→Ch (DV.encL vs)=true
 |[],_=>rfl
 | v::r,h=>by
   simp only[Jb,Ai] at h
   simp only[DV.encL,Ch,Ai]
   refine⟨?_,V7 h.2⟩
   cases v<;>first|rfl|cases h.1
theorem fq{v:DV}(h:Jb v.cells=true):v≠.any:=by
 rintro rfl;simp[DV.cells,Jb,DV.nflat] at h
theorem cd{n:Nat}{hd:Hd}{p k j o:Nat}{w:DV}{pw:PV}{d d':DS}{s:PS}{g:PX}{v:DV}(hs:ES d s)(hw:EV w pw)(h:MA n hd p k j o w d=some (g,v,d'))(hg:g.den):∃ s',Mj n hd p k j o pw s=some (v.enc,s')∧ES d' s':=by
 unfold MA at h;split at h
 · rename_i r l hk;by_cases hc:(w.cells.length == n&&Nat.ble (o+n) r.w&&Jb w.cells)=true
   · rw[Ab hc] at h;simp only[Ai,AA] at hc;obtain⟨⟨rfl,hl⟩,hf⟩:=hc;have hl:=BR hl
     cases hof:r.of (Gc (r.dv .own (lGet (lGet (α:=List r.D) l k []) j r.dflt)) o w.cells) with
     |none=>rw[hof] at h;cases h
     | some y=>
       rw[hof] at h;simp only[Ah,Aj] at h;obtain⟨rfl,rfl,rfl⟩:=h;obtain⟨g1,g2⟩:=hg
       have hne:Bt d hd [p]≠.any:=by rw[hk];simp
       have e1:=Fy hs hd [p] hne;rw[hk] at e1;have hL:lGet (α:=List r.D) l k []=List.getD (α:=List r.D) l k []:=KO (α:=List r.D) l k [];rw[hL] at g2 hof;have g2':j<List.length (α:=r.D) (List.getD (α:=List r.D) l k []):=g2;have e4:=E8 r (List.getD (α:=List r.D) l k []) j g2';have e5:=Ld hof;rw[LU,P8,KO] at e5;have e6:AL (List.map (RT.enc r) (List.getD (α:=List r.D) l k [])) j (RT.enc r y)=List.map (RT.enc r) (List.set (α:=r.D) (List.getD (α:=List r.D) l k []) j y):=Mb r _ j y;have e7:AL (List.map (RT.enc (.one (.sl r))) l) k [PV.sl .own (List.map (RT.enc r) (List.set (α:=r.D) (List.getD (α:=List r.D) l k []) j y))]=List.map (RT.enc (.one (.sl r))) (List.set (α:=List r.D) l k (List.set (α:=r.D) (List.getD (α:=List r.D) l k []) j y)):=Mb (.one (.sl r)) l k (List.set (α:=r.D) (List.getD (α:=List r.D) l k []) j y);have e3:=IL hs hd [p] (.sl .own (.one (.sl r)) (lSet (α:=List r.D) l k (lSet (lGet (α:=List r.D) l k []) j y))) hne
       have hS:lSet (α:=List r.D) l k (lSet (lGet (α:=List r.D) l k []) j y)=List.set (α:=List r.D) l k (List.set (α:=r.D) (List.getD (α:=List r.D) l k []) j y):=by
        rw[hL];exact(MO (α:=List r.D) l k _).trans (congrArg (fun z=>List.set (α:=List r.D) l k z) (MO (α:=r.D) _ j y))
       rw[hw.of (fq hf)];have e1':BS s hd [p]= .sl .own (List.map (RT.enc (.one (.sl r))) l):=e1;have e2':Aw (List.map (RT.enc (.one (.sl r))) l) k=[.sl .own (List.map (RT.enc r) (List.getD (α:=List r.D) l k []))]:=E8 (.one (.sl r)) l k g1;have e5':Ao (RT.enc r (List.getD (α:=r.D) (List.getD (α:=List r.D) l k []) j r.dflt)) o (DV.encL w.cells)=RT.enc r y:=e5;unfold Mj;rw[e1'];simp only[Bg];rw[Ab g1,e2'];simp only[Bg,G0,Dm];rw[Ab ⟨g2',trivial,by rw[e4,H8];exact hl,V7 hf⟩,e4,e5',e6,e7];refine⟨_,rfl,?_⟩;rw[hS] at e3 ⊢;exact e3
   · rw[Ad hc] at h;cases h
 · cases h
theorem iw(hd:Hd)(v:DV)(h:v≠.any):(TS hd v).enc=FV hd v.enc:=by
 cases v<;>first|rfl|exact absurd rfl h|skip
 case nil q=>cases q<;>rfl
 case sl q r l=>cases q<;>rfl
 case agg cs=>show PV.agg _=PV.agg _;rw[Mc]
 case tup vs=>
  simp only[TS,DV.enc,FV,KB];split<;>rfl
theorem cW{d:DS}{s:PS}(x:Opnd)(h:ES d s)(hk:(Hj x d).1.ok=true):(Im x s).1=(Hj x d).1.enc∧ES (Hj x d).2 (Im x s).2:=by
 cases x with
 | c v=>
   refine⟨?_,h⟩;refine(Pc v fun he=>?_).symm;simp only[Hj,he,DV.ok,As] at hk
 | t n=>
   simp only[Hj] at hk
   have hn:AR d.sl n≠.any:=by intro e;rw[e] at hk;cases hk
   simp only[Hj,Im];rw[(h.sl.get n).of hn,iw _ _ hn];exact⟨rfl,h⟩
theorem F8:∀ (l:List V),E6 l=true→l.all V.flat=true∧DV.encL (EO l)=l.map AZ∧Cd (EO l)=true
 |[],_=>⟨rfl,rfl,rfl⟩
 | v::r,h=>by
   simp only[E6,Ai] at h;obtain⟨h1,h2,h3⟩:=F8 r h.2
   have hv:(Gw v).cell=true∧(Gw v).enc=AZ v:=by cases v<;>first|exact⟨rfl,rfl⟩|(have:=h.1;cases this)
   refine⟨by simp only[Ea,h.1,h1,B9],?_,?_⟩
   · simp only[EO,DV.encL,BE,h2,hv.2]
   · simp only[EO,Cd,hv.1,h3,B9]
theorem Ri:∀ (ps:List (Nat×Nat×Opnd)) {cs cs':List DV} {d d':DS} {s:PS},ES d s→Gv cs ps d=some (cs',d')→∃ s',C0 (DV.encL cs) ps s=some (DV.encL cs',s')∧ES d' s'
 | [],cs,cs',d,d',s,hs,h=>by
   simp only[Gv,Ah,Aj] at h
   obtain⟨rfl,rfl⟩:=h
   exact⟨s,rfl,hs⟩
 | (off,size,x)::r,cs,cs',d,d',s,hs,h=>by
   unfold Gv at h
   by_cases hc:((AG x d).1.cells.length == size&&Nat.ble (off+size) cs.length&&Cd (AG x d).1.cells)=true
   · rw[Ab hc] at h
     simp only[Ai,AA] at hc
     obtain⟨⟨h1,h2⟩,h3⟩:=hc
     obtain⟨m1,m2⟩:=Dl x hs (L7 _ h3)
     obtain⟨s',e1,e2⟩:=Ri r m2 h
     refine⟨s',?_,e2⟩
     unfold C0
     rw[m1,G0,Dm,Dm,Ab ⟨h1,BR h2,IW _ h3⟩,← LU]
     exact e1
   · rw[Ad hc] at h;cases h
theorem Wo:∀ (n:Nat) (l:List DV),DV.encL (l.take n)=(DV.encL l).take n
 |0,_=>rfl
 |_+1,[]=>rfl
 |n+1,_::r=>by simp only[Tv,DV.encL,Wo n r]
theorem Wk:∀ (n:Nat) (l:List DV),DV.encL (l.drop n)=(DV.encL l).drop n
 |0,_=>rfl
 |_+1,[]=>rfl
 |n+1,_::r=>by simp only[List.drop_succ_cons,DV.encL,Wk n r]
theorem U7(r:RT)(w:Nat):∀ (n:Nat) (cs:List DV) (l:List r.D),KH r w n cs=some l→CZ w n (DV.encL cs)=l.map (RT.enc r)
 | 0,cs,l,h=>by
   simp only[KH,Ah] at h;subst h;rfl
 | n + 1,cs,l,h=>by
   unfold KH at h
   cases h1:r.of (cs.take w) with
   |none=>rw[h1] at h;cases h
   | some x=>
     cases h2:KH r w n (cs.drop w) with
     |none=>rw[h1,h2] at h;cases h
     | some y=>
       rw[h1,h2] at h
       have:=BQ h
       subst this
       simp only[CZ,BE,← Wo,← Wk,Ld h1,U7 r w n _ y h2]
def DSrc.es:DSrc→List (List PV)
 |.nil=>[]
 |.sl r l=>l.map (RT.enc r)
theorem Nd{r:RT}{x:DSrc}{l:List r.D}(h:x.to r=some l):x.es=l.map (RT.enc r):=by
 cases x with
 |nil=>have:=BQ h;subst this;rfl
 |sl r' l'=>exact(Pb h).2
theorem XZ:∀ (t:CT) (x:t.D),t.flat=true→(CT.enc t x).flatc=true
 |.int _,_,_|.bool,_,_|.str,_,_|.ifc,_,_=>rfl
theorem X7:∀ (r:RT) (x:r.D),r.flat=true→Ch (RT.enc r x)=true
 |.one t,x,h=>by simp only[RT.enc,Ch,XZ t x h,B9]
 | .cons t r,x,h=>by
   simp only[RT.flat,Ai] at h
   simp only[RT.enc,Ch,XZ t x.1 h.1,X7 r x.2 h.2,B9]
theorem WS(r:RT)(h:r.flat=true):∀ (l:List r.D),Gu (l.map (RT.enc r))=true
 |[]=>rfl
 |x::l=>by simp only[BE,Gu,X7 r x h,WS r h l,B9]
theorem jI{w:Nat}{x:DSrc}(h:x.w w=true):BH w x.es=true:=by
 cases x with
 |nil=>rfl
 | sl r l=>
   have:r.w=w:=by simpa [DSrc.w] using h
   subst this;exact DI r l
theorem mv_ok{d:DS}{x:Opnd}(v:DV)(hx:x.dev d.sl=v)(ho:v.own=true)(hb:∀ hd,v.bor hd=false)(hk:v.ok=true):(AG x d).1=v:=by
 cases x with
 |c c=>exact hx
 | t n=>
   have hx':AR d.sl n=v:=hx;simp only[AG,Nq,hx',ho,hb,Az,As,AB]
theorem Rj{w:Nat}{y:Opnd}{d d':DS}{s:PS}{new:DSrc}(hs:ES d s)(h:GD w y d=some (new,d')):∃ s',Ds w y s=some (new.es,s')∧ES d' s':=by
 have hy:=y.dev_ev hs;unfold GD at h;unfold Ds
 cases hv:y.dev d.sl with
 | str t=>
   rw[hv] at h hy;simp only at h;by_cases hw:(w == 1)=true
   · rw[Ab hw] at h;simp only[Ah,Aj] at h;obtain⟨rfl,rfl⟩:=h;rw[hy.of (by simp)];simp only[DV.enc];rw[Ab (by simpa using hw)];refine⟨s,?_,hs⟩
     have:(DSrc.sl (.one (.int .u8)) (sRow t)).es=t.map fun b=>[PV.fl (.int .u8 b.toNat)]:=by
      unfold DSrc.es;rw[YT];clear hy hv
      induction t with
      |nil=>rfl
      |cons b t ih=>exact congrArg (List.cons _) ih
     rw[this]
   · rw[Ad hw] at h;cases h
 | nil q=>
   rw[hv] at h hy;have hp:=hy.of (by simp)
   cases q with
   | own=>
     simp only[Ah,Aj] at h;obtain⟨rfl,rfl⟩:=h;have hk:=mv_ok (.nil .own) hv rfl (fun _=>rfl) rfl;obtain⟨m1,m2⟩:=Dl y hs (by rw[hk];rfl);rw[hp];exact⟨_,rfl,m2⟩
   | frz=>
     simp only[Ah,Aj] at h;obtain⟨rfl,rfl⟩:=h;rw[hp];exact⟨s,rfl,hs⟩
   | ownw w'=>
     simp only[Ah,Aj] at h;obtain⟨rfl,rfl⟩:=h;rw[hp];exact⟨s,rfl,hs⟩
   | bor a b c=>
     simp only[Ah,Aj] at h;obtain⟨rfl,rfl⟩:=h;rw[hp];exact⟨s,rfl,hs⟩
   | pre a b=>
     simp only[Ah,Aj] at h;obtain⟨rfl,rfl⟩:=h;rw[hp];exact⟨s,rfl,hs⟩
 | sl q r l=>
   rw[hv] at h hy;have hp:=hy.of (by simp)
   have key:(if (r.w == w&&r.flat)=true then some (DSrc.sl r l,d) else none)=some (new,d')→BH w (l.map (RT.enc r))=true∧Gu (l.map (RT.enc r))=true∧new.es=l.map (RT.enc r)∧d'=d:=fun h=>by
    by_cases hw:(r.w == w&&r.flat)=true
    · rw[Ab hw] at h;simp only[Ai,AA] at hw;simp only[Ah,Aj] at h;obtain⟨rfl,rfl⟩:=h;exact⟨hw.1▸DI r l,WS r hw.2 l,rfl,rfl⟩
    · rw[Ad hw] at h;cases h
   rw[hp]
   cases q with
   | own=>
     simp only at h;by_cases hw:(r.w == w)=true
     · rw[Ab hw] at h;simp only[Ah,Aj] at h;obtain⟨rfl,rfl⟩:=h;have hk:=mv_ok (.sl .own r l) hv rfl (fun _=>rfl) rfl;obtain⟨m1,m2⟩:=Dl y hs (by rw[hk];rfl)
       have hw':r.w=w:=by simpa using hw
       simp only[DV.enc];rw[Ab (hw'▸DI r l)];exact⟨_,rfl,m2⟩
     · rw[Ad hw] at h;cases h
   |ownw w'=>cases h
   |frz=>obtain⟨k1,k2,k3,rfl⟩:=key h;simp only[DV.enc];rw[Ab ⟨k1,k2⟩,k3];exact⟨s,rfl,hs⟩
   |bor a b c=>obtain⟨k1,k2,k3,rfl⟩:=key h;simp only[DV.enc];rw[Ab ⟨k1,k2⟩,k3];exact⟨s,rfl,hs⟩
   |pre a b=>obtain⟨k1,k2,k3,rfl⟩:=key h;simp only[DV.enc];rw[Ab ⟨k1,k2⟩,k3];exact⟨s,rfl,hs⟩
 |_=>rw[hv] at h;cases h
theorem Jg{x:DSrc}{r:RT}{l:List r.D}(h:x.to r=some l):x.es.length=l.length:=by rw[Nd h,Bg]
theorem VN{w:Nat}{x:Opnd}{new:DSrc}{d d':DS}{s:PS}{g:PX}{v:DV}(hs:ES d s)(h:Lp w x new d=some (g,v,d'))(hg:g.den):∃ s',FQ w x new.es s=some (v.enc,s')∧ES d' s':=by
 have hx:=x.dev_ev hs;unfold Lp at h;by_cases h0:(Nat.blt 0 w&&new.w w)=true
 · simp only [h0,KV,As,AB] at h;simp only[Ai] at h0;have hw0:0<w:=BR h0.1;unfold FQ
   cases hv:x.dev d.sl with
   | nil q =>
     rw[hv] at h hx;rw[hx.of (by simp)]
     cases q with
     | own=>
       have hk:=mv_ok (.nil .own) hv rfl (fun _=>rfl) rfl;obtain⟨m1,m2⟩:=Dl x hs (by rw[hk];rfl)
       cases new with
       | nil=>
         simp only[Ah,Aj] at h;obtain⟨rfl,rfl,rfl⟩:=h;simp only[DV.enc,DSrc.es,AY,DP,Hc,I8];rw[Ab ⟨hw0,rfl,Ig _⟩];exact⟨_,rfl,m2⟩
       | sl r l=>
         simp only[Ah,Aj] at h;obtain⟨rfl,rfl,rfl⟩:=h;simp only[DV.enc,DSrc.es,AY,Bd,Bg,B7];rw[Ab ⟨hw0,rfl,hg⟩];exact⟨_,rfl,m2⟩
     | bor hd p t=>
       cases t with
       | false=>cases p with
         |nil=>cases h
         |cons c p=>cases p<;>cases h
       | true=>
         match p,h with
         | [c],h=>
           simp only at h ⊢
           cases hk:Bt d hd [c]<;>rw[hk] at h<;>try (cases h;done)
           rename_i q
           cases q<;>try (cases h;done)
           have hne:Bt d hd [c]≠.any:=by rw[hk];simp
           have e1:=Fy hs hd [c] hne;rw[hk] at e1;have e3:=IL hs hd [c] .undef hne
           cases new with
           | nil=>
             simp only[Ah,Aj] at h;obtain⟨rfl,rfl,rfl⟩:=h;simp only[DV.enc,e1,DSrc.es,AY,DP,Hc,I8];rw[Ab ⟨hw0,rfl,trivial,Ig _⟩];exact⟨_,rfl,e3⟩
           | sl r l=>
             simp only[Ah,Aj] at h;obtain⟨rfl,rfl,rfl⟩:=h;simp only[DV.enc,e1,DSrc.es,AY,Bd,Bg,B7];rw[Ab ⟨hw0,rfl,trivial,hg⟩];exact⟨_,rfl,e3⟩
         |[],h=>cases h
         |_::_::_,h=>cases h
     |_=>cases h
   | sl q r l=>
     rw[hv] at h hx;rw[hx.of (by simp)]
     cases q with
     | own =>
       simp only at h;by_cases hw:(r.w == w)=true
       · rw[Ab hw] at h
         have hw':r.w=w:=by simpa using hw
         cases ht:new.to r with
         |none=>rw[ht] at h;cases h
         | some n=>
           rw[ht] at h;simp only[Ah,Aj] at h;obtain⟨rfl,rfl,rfl⟩:=h;have hk:=mv_ok (.sl .own r l) hv rfl (fun _=>rfl) rfl;obtain⟨m1,m2⟩:=Dl x hs (by rw[hk];rfl);simp only[DV.enc,Bg,Jg ht];rw[Ab ⟨hw0,hw'▸DI r l,hg⟩,Nd ht];refine⟨_,?_,m2⟩;simp only[Ji,Fh]
       · rw[Ad hw] at h;cases h
     | bor hd p t=>
       cases t with
       | false=>cases p with
         |nil=>cases h
         |cons c p=>cases p<;>cases h
       | true=>
         match p,h with
         | [c],h=>
           simp only at h ⊢
           cases hk:Bt d hd [c]<;>rw[hk] at h<;>try (cases h;done)
           rename_i q rh lh
           cases q<;>try (cases h;done)
           simp only at h;by_cases hw:(rh.w == w)=true
           · rw[Ab hw] at h
             have hw':rh.w=w:=by simpa using hw
             cases ht:new.to rh with
             |none=>rw[ht] at h;cases h
             | some n=>
               rw[ht] at h;simp only[Ah,Aj] at h;obtain⟨rfl,rfl,rfl⟩:=h
               have hne:Bt d hd [c]≠.any:=by rw[hk];simp
               have e1:=Fy hs hd [c] hne;rw[hk] at e1;have e3:=IL hs hd [c] .undef hne;simp only[DV.enc,e1,Bg,Jg ht];rw[Ab ⟨hw0,hw'▸DI rh lh,hg.1,hg.2⟩,Nd ht];refine⟨_,?_,e3⟩;simp only[Ji,Fh,DV.enc]
           · rw[Ad hw] at h;cases h
         |[],h=>cases h
         |_::_::_,h=>cases h
     | pre hd p=>
      match p,h with
      | [c],h=>
        simp only at h ⊢
        cases hk:Bt d hd [c]<;>rw[hk] at h<;>try (cases h;done)
        rename_i q rh lh
        cases q<;>try (cases h;done)
        simp only at h;by_cases hw:(rh.w == w)=true
        · rw[Ab hw] at h
          have hw':rh.w=w:=by simpa using hw
          cases ht:new.to rh with
          |none=>rw[ht] at h;cases h
          | some n=>
            rw[ht] at h;simp only[Ah,Aj] at h;obtain⟨rfl,rfl,rfl⟩:=h
            have hne:Bt d hd [c]≠.any:=by rw[hk];simp
            have e1:=Fy hs hd [c] hne;rw[hk] at e1;have e3:=IL hs hd [c] .undef hne;simp only[DV.enc,e1,Bg,Jg ht];rw[Ab ⟨hw0,hw'▸DI rh lh,hg.1,hg.2.1,hg.2.2.2⟩,Nd ht,Ad (Nat.ne_of_gt hg.2.2.1)];refine⟨_,?_,e3⟩;simp only[Ji,S0,Nl,Fh,List.map_take,DV.enc]
        · rw[Ad hw] at h;cases h
      |[],h=>cases h
      |_::_::_,h=>cases h
     |_=>cases h
   |_=>rw[hv] at h;cases h
 · simp only[h0] at h;cases h
theorem WC{zs:List V}(h:E6 zs=true):EL (news (EO zs)) (zs.map AZ):=by rw[← (F8 zs h).2.1];exact EL.news _
theorem EB.append{c:List DC}{p:List PV}:∀ {a:List (List DC)} {b:List (List PV)},EB a b→EBx c p→EB (a++[c]) (b++[p])
 |[],[],_,h=>⟨h,trivial⟩
 |_::_,_::_,h,h'=>⟨h.1,EB.append h.2 h'⟩
theorem bO(r:RT)(x:r.D)(n:Nat):(List.replicate n x).map (RT.enc r)=List.replicate n (RT.enc r x):=by simp
theorem Vr{m:Bool}{o:AOp}{ty:Option RT}{d d':DS}{s:PS}{g:PX}{v:DV}(hs:ES d s)(h:A3 m o ty d=some (g,v,d'))(hg:g.den):∃ s',AV m o s=some (v.enc,s')∧ES d' s':=by
 have E:=fun x=>Opnd.dev_ev hs x
 have pure:(Lc o (fun x=>x.dev d.sl)).map (fun r=>(r.1,r.2,d))=some (g,v,d')→∃ s',AV m o s=some (v.enc,s')∧ES d' s':=fun h=>by
  cases hp:Lc o (fun x=>x.dev d.sl) with
  |none=>rw[hp] at h;cases h
  | some r=>
    obtain⟨g1,v1⟩:=r;rw[hp] at h;simp only[Bw,Ah,Aj] at h;obtain⟨rfl,rfl,rfl⟩:=h;exact⟨s,dg hs hp hg,hs⟩
 cases o<;>first|exact pure h|skip
 case mv x=>
  cases m with
  | false=>
    simp only[A3,As,AB] at h;by_cases hk:(AG x d).1.ok=true
    · rw[Ab hk] at h;simp only[Ah,Aj] at h;obtain⟨rfl,rfl,rfl⟩:=h;obtain⟨m1,m2⟩:=Dl x hs hk;exact⟨_,by simp only[AV,As,AB,← m1],m2⟩
    · rw[Ad hk] at h;cases h
  | true=>
    simp only[A3,Az] at h;by_cases hk:(Hj x d).1.ok=true
    · rw[Ab hk] at h;simp only[Ah,Aj] at h;obtain⟨rfl,rfl,rfl⟩:=h;obtain⟨m1,m2⟩:=cW x hs hk;exact⟨_,by simp only[AV,Az,← m1],m2⟩
    · rw[Ad hk] at h;cases h
 case loadB i n a=>exact Vk hs (E a) h
 case loadH n a=>
  simp only[A3] at h
  cases hn:Gi m n (a.dev d.sl) d with
  | none=>
    rw[hn] at h;obtain⟨s',h1,h2⟩:=Vi hs (E a) h hg;refine⟨s',?_,h2⟩
    have hne:a.dev d.sl≠.any:=by
     intro e;simp only[e,Ia] at h;cases h
    simp only[AV,dF (s:=s) (E a) hne hn];exact h1
  | some r=>
    rw[hn] at h;obtain⟨h1,rfl⟩:=Vq hs (E a) hn h hg;exact⟨s,by simp only[AV,h1];rfl,hs⟩
 case loadX i c n a=>
  simp only[A3] at h;split at h
  · rename_i hx
    cases hn:Gi m n (a.dev d.sl) d with
    |none=>rw[hn] at h;cases h
    | some r=>
      rw[hn] at h;obtain⟨h1,rfl⟩:=Vq hs (E a) hn h hg;exact⟨s,by simp only[AV,fg (E a) hx,Az,h1];rfl,hs⟩
  · cases h
 case storeB i n a x=>exact bM hs h
 case storeH n a x=>
  simp only[A3] at h;split at h
  · rename_i hok;have hn:=gB (E a) (fun e=>by rw[e] at hok;cases hok);split at h
    · rename_i hd p k j o hm;obtain⟨s',h1,h2⟩:=cd hs (E x) h hg;exact⟨s',by simp only[AV,hn,hm];exact h1,h2⟩
    · rename_i hm;obtain⟨s',h1,h2⟩:=b9 hs h hg;exact⟨s',by simp only[AV,hn,hm];exact h1,h2⟩
  · cases h
 case appN w x y=>
  simp only[A3] at h;split at h
  · rename_i hx
    cases h1:GD w y d with
    |none=>rw[h1] at h;cases h
    | some r=>
      obtain⟨new,d1⟩:=r;rw[h1] at h;obtain⟨s1,e1,e2⟩:=Rj hs h1;obtain⟨s2,e3,e4⟩:=VN e2 h hg;have ex:=(E x).of (by rw[hx];simp);rw[hx] at ex;exact⟨s2,by simp only[AV,ex,DV.enc,e1];exact e3,e4⟩
  · cases h
 case app w x y=>
  simp only[A3] at h
  cases h1:GD w y d with
  |none=>rw[h1] at h;cases h
  | some r=>
    obtain⟨new,d1⟩:=r;rw[h1] at h;obtain⟨s1,e1,e2⟩:=Rj hs h1;obtain⟨s2,e3,e4⟩:=VN e2 h hg;exact⟨s2,by simp only[AV,e1];exact e3,e4⟩
 case allocB i zs=>
  simp only[A3] at h;by_cases hc:(Nat.blt i d.bx.length&&E6 zs)=true
  · rw[Ab hc] at h;simp only[Ai] at hc;simp only[Ah,Aj] at h;obtain⟨rfl,rfl,rfl⟩:=h;simp only[AV];rw[Ab ⟨by rw[← hs.bx.len];exact BR hc.1,(F8 zs hc.2).1⟩];exact⟨_,rfl,(hs.sl.clearBox i).clr _,hs.bx.put i (.inr (WC hc.2)),hs.hp⟩
  · rw[Ad hc] at h;cases h
 case boxB i n x=>
  simp only[A3] at h;by_cases hc:(Nat.blt i (AG x d).2.bx.length&&(AG x d).1.cells.length == n&&Cd (AG x d).1.cells)=true
  · rw[Ab hc] at h;simp only[Ai,AA] at hc;obtain⟨⟨h1,rfl⟩,h3⟩:=hc;obtain⟨m1,m2⟩:=Dl x hs (L7 _ h3);simp only[Ah,Aj] at h;obtain⟨rfl,rfl,rfl⟩:=h;simp only[AV,m1,G0,Dm];rw[Ab ⟨by rw[← m2.bx.len];exact BR h1,trivial,IW _ h3⟩];exact⟨_,rfl,(m2.sl.clearBox i).clr _,m2.bx.put i (.inr (EL.news _)),m2.hp⟩
  · rw[Ad hc] at h;cases h
 case allocH zs=>
  simp only[A3] at h;by_cases hc:E6 zs=true
  · rw[Ab hc] at h;simp only[Ah,Aj] at h;obtain⟨rfl,rfl,rfl⟩:=h;simp only[AV];rw[Ab (F8 zs hc).1,← hs.hp.len];exact⟨_,rfl,hs.sl.clr _,hs.bx,hs.hp.append (.inr (WC hc))⟩
  · rw[Ad hc] at h;cases h
 case boxH n x=>
  simp only[A3] at h;by_cases hc:((AG x d).1.cells.length == n&&Cd (AG x d).1.cells)=true
  · rw[Ab hc] at h;simp only[Ai,AA] at hc;obtain⟨rfl,h3⟩:=hc;obtain⟨m1,m2⟩:=Dl x hs (L7 _ h3);simp only[Ah,Aj] at h;obtain⟨rfl,rfl,rfl⟩:=h;simp only[AV,m1,G0,Dm];rw[Ab ⟨trivial,IW _ h3⟩,← m2.hp.len];exact⟨_,rfl,m2.sl.clr _,m2.bx,m2.hp.append (.inr (EL.news _))⟩
  · rw[Ad hc] at h;cases h
 case build zs ps=>
  simp only[A3] at h;by_cases hc:E6 zs=true
  · rw[Ab hc] at h
    cases hf:Gv (EO zs) ps d with
    |none=>rw[hf] at h;cases h
    | some r=>
      obtain⟨cs,d1⟩:=r;rw[hf] at h;simp only[Ah,Aj] at h;obtain⟨rfl,rfl,rfl⟩:=h;obtain⟨s',e1,e2⟩:=Ri ps hs hf;rw[(F8 zs hc).2.1] at e1;simp only[AV];rw[Ab (F8 zs hc).1,e1];exact⟨s',rfl,e2⟩
  · rw[Ad hc] at h;cases h
 case mkSlice w z len=>
  simp only[A3] at h
  cases he:len.dev d.sl with
  | int k n=>
    rw[he] at h
    cases k<;>try (cases h)
    simp only at h;split at h
    · rename_i r hr;split at h
      · rename_i x hx;split at h
        · rename_i hc;simp only[Ai,AA] at hc;obtain⟨⟨⟨h1,h2⟩,h3⟩,h4⟩:=hc;simp only[Ah,Aj] at h;obtain⟨rfl,rfl,rfl⟩:=h;have hp:=E len;rw[he] at hp;simp only[AV,hp.of (by simp),DV.enc];rw[Ab ⟨hg.1,h1,BR h3,(F8 z h4).1,hg.2⟩];refine⟨s,?_,hs⟩;rw[Ye];rw[bO,← Ld hx,(F8 z h4).2.1]
        · cases h
      · cases h
    · cases h
  |_=>rw[he] at h;cases h
 case litSlice w n zs ps=>
  simp only[A3] at h;by_cases hn:(n == 0)=true
  · rw[Ab hn] at h;simp only[Ah,Aj] at h;obtain⟨rfl,rfl,rfl⟩:=h;simp only[AV];rw[Ab (by simpa using hn)];refine⟨s,?_,hs⟩;cases ty<;>rfl
  · rw[Ad hn] at h;split at h
    · rename_i hc;simp only[Ai,AA] at hc;obtain⟨⟨h1,h2⟩,h3⟩:=hc;split at h
      · rename_i cs d1 hf;split at h
        · rename_i r hr;split at h
          · split at h
            · rename_i l hl;simp only[Ah,Aj] at h;obtain⟨rfl,rfl,rfl⟩:=h;obtain⟨s',e1,e2⟩:=Ri ps hs hf;rw[(F8 zs h1).2.1] at e1;simp only[AV];rw[Ad (by simpa using hn),Ab ⟨(F8 zs h1).1,h2,BR h3⟩,e1];refine⟨s',?_,e2⟩;simp only[Bw,DV.enc,U7 r w n cs l hl]
            · cases h
          · cases h
        · cases h
      · cases h
    · cases h
 case extract x i=>
  simp only[A3] at h
  cases x with
  |c v=>cases h
  | t t =>
    simp only at h;have ht:EV (AR d.sl t) (Aa s.sl t):=hs.sl.get t
    cases hv:AR d.sl t with
    | tup vs=>
      rw[hv] at h ht;simp only at h;have hp:Aa s.sl t= .tup (DV.encL vs):=ht.of (by simp);split at h
      · rename_i hc;simp only[Ai] at hc;simp only[AV,hp];rw[Dm,Ab (show i<vs.length from BR hc.1),← Ku,G6,Py];split at h
        · rename_i ho;rw[Ab ho];split at h
          · cases h
          · rename_i hb;rw[Ad hb];simp only[Ah,Aj] at h;obtain⟨rfl,rfl,rfl⟩:=h;refine⟨_,rfl,?_,hs.bx,hs.hp⟩;refine(EL.put t hs.sl (.inr ?_)).clr _;show PV.tup _=PV.tup _;rw[Ph];rfl
        · rename_i ho;rw[Ad ho];simp only[Ah,Aj] at h;obtain⟨rfl,rfl,rfl⟩:=h;exact⟨_,rfl,hs⟩
      · cases h
    |_=>rw[hv] at h;cases h
theorem SF{w:Nat}{new:DSrc}{r:RT}{n:List r.D}(h:new.to r=some n)(l:List r.D)(hw:r.w=w):l.map (RT.enc r)++new.es=(l++n).map (RT.enc r)∧BH w (l.map (RT.enc r)++new.es)=true:=by
 have:l.map (RT.enc r)++new.es=(l++n).map (RT.enc r):=by rw[Nd h,Fh]
 exact⟨this,by rw[this];exact hw▸DI r (l++n)⟩
theorem Qi{w:Nat}{es:List (List PV)}(h:BH w es=true):Dh [(0,w)] (.sl .own es)=some (.sl (.ownw w) es):=by
 show D1 w (.sl .own es)=_;simp only[D1];rw[Ab h]
theorem jT{w:Nat}{es:List (List PV)}:Dh [(0,w)] (.sl (.ownw w) es)=some (.sl (.ownw w) es):=by
 show D1 w (.sl (.ownw w) es)=_;simp only[D1,Az]
theorem ME{w:Nat}{es:List (List PV)}{c:Prop} [Decidable c](h:BH w es=true):Dh [(0,w)] (.sl (if c then .ownw w else .own) es)=some (.sl (.ownw w) es):=by
 split
 · exact jT
 · exact Qi h
theorem di{w:Nat}{x:Opnd}{new:DSrc}{d d':DS}{s:PS}{g:PX}{v:DV}(hs:ES d s)(h:M5 w x new d=some (g,v,d'))(hg:g.den):∃ s' v0,FQ w x new.es s=some (v0,s')∧Dh [(0,w)] v0=some v.enc∧ES d' s':=by
 have hx:=x.dev_ev hs;unfold M5 at h;by_cases h0:(Nat.blt 0 w&&new.w w)=true
 · simp only [h0,KV,As,AB] at h;simp only[Ai] at h0;have hw0:0<w:=BR h0.1;have haw:=jI h0.2;unfold FQ
   cases hv:x.dev d.sl with
   | nil q =>
     rw[hv] at h hx;rw[hx.of (by simp)]
     cases q with
     | own=>
       have hk:=mv_ok (.nil .own) hv rfl (fun _=>rfl) rfl;obtain⟨m1,m2⟩:=Dl x hs (by rw[hk];rfl);simp only[DV.enc,AY,Bd,B7]
       cases new with
       | nil=>
         simp only[Iq,Ah,Aj] at h;obtain⟨rfl,rfl,rfl⟩:=h;rw[Ab ⟨hw0,rfl,by simp[DSrc.es,AW]⟩];exact⟨_,_,rfl,Qi haw,m2⟩
       | sl r l=>
         simp only[Iq,Ah,Aj] at h;obtain⟨rfl,rfl,rfl⟩:=h;rw[Ab ⟨hw0,rfl,by simpa [DSrc.es,PX.den] using hg⟩];exact⟨_,_,rfl,Qi haw,m2⟩
     | ownw w'=>
       simp only at h;by_cases hw':(w' == w)=true
       · rw[Ab hw'] at h
         have hw':w'=w:=by simpa using hw'
         subst hw';have hk:=mv_ok (.nil (.ownw w')) hv rfl (fun _=>rfl) rfl;obtain⟨m1,m2⟩:=Dl x hs (by rw[hk];rfl);simp only[DV.enc,AY,Bd,B7]
         cases new with
         | nil=>
           simp only[Iq,Ah,Aj] at h;obtain⟨rfl,rfl,rfl⟩:=h;rw[Ab ⟨hw0,trivial,rfl,by simp[DSrc.es,AW]⟩];exact⟨_,_,rfl,ME haw,m2⟩
         | sl r l=>
           simp only[Iq,Ah,Aj] at h;obtain⟨rfl,rfl,rfl⟩:=h;rw[Ab ⟨hw0,trivial,rfl,by simpa [DSrc.es,PX.den] using hg⟩];exact⟨_,_,rfl,ME haw,m2⟩
       · rw[Ad hw'] at h;cases h
     |_=>cases h
   | sl q r l=>
     rw[hv] at h hx;rw[hx.of (by simp)]
     cases q with
     | own =>
       simp only at h;by_cases hw:(r.w == w)=true
       · rw[Ab hw] at h
         have hw':r.w=w:=by simpa using hw
         cases ht:new.to r with
         |none=>rw[ht] at h;cases h
         | some n=>
           rw[ht] at h;simp only[Ah,Aj] at h;obtain⟨rfl,rfl,rfl⟩:=h;have hk:=mv_ok (.sl .own r l) hv rfl (fun _=>rfl) rfl;obtain⟨m1,m2⟩:=Dl x hs (by rw[hk];rfl);obtain⟨a1,a2⟩:=SF ht l hw';simp only[DV.enc,Bg,Jg ht];rw[Ab ⟨hw0,hw'▸DI r l,hg⟩];exact⟨_,_,rfl,by rw[Qi a2,a1];simp only[Ji],m2⟩
       · rw[Ad hw] at h;cases h
     | ownw w'=>
       simp only at h;by_cases hw:(w' == w&&r.w == w)=true
       · rw[Ab hw] at h;simp only[Ai,AA] at hw;obtain⟨rfl,hw'⟩:=hw
         cases ht:new.to r with
         |none=>rw[ht] at h;cases h
         | some n=>
           rw[ht] at h;simp only[Ah,Aj] at h;obtain⟨rfl,rfl,rfl⟩:=h;have hk:=mv_ok (.sl (.ownw w') r l) hv rfl (fun _=>rfl) rfl;obtain⟨m1,m2⟩:=Dl x hs (by rw[hk];rfl);obtain⟨a1,a2⟩:=SF ht l hw';simp only[DV.enc,Bg,Jg ht];rw[Ab ⟨hw0,trivial,hw'▸DI r l,hg⟩];exact⟨_,_,rfl,by rw[ME a2,a1];simp only[Ji],m2⟩
       · rw[Ad hw] at h;cases h
     | pre hd p=>
      match p,h with
      | [c],h=>
        simp only at h ⊢
        cases hk:Bt d hd [c]<;>rw[hk] at h<;>try (cases h;done)
        rename_i q rh lh
        have hne:Bt d hd [c]≠.any:=by rw[hk];simp
        have e1:=Fy hs hd [c] hne;rw[hk] at e1;have e3:=IL hs hd [c] .undef hne
        have tk:∀ {n:List rh.D},new.to rh=some n→rh.w=w→(lh.map (RT.enc rh)).take l.length++new.es=(lApp (lTake lh (lN l)) n).map (RT.enc rh)∧BH w ((lh.map (RT.enc rh)).take l.length++new.es)=true:=by
         intro n ht hw';have:=SF ht (lh.take l.length) hw';rw[List.map_take] at this;simp only[Ji,S0,Nl];exact this
        cases q<;>try (cases h;done)
        case own=>
         simp only at h;by_cases hw:(rh.w == w)=true
         · rw[Ab hw] at h
           have hw':rh.w=w:=by simpa using hw
           cases ht:new.to rh with
           |none=>rw[ht] at h;cases h
           | some n=>
             rw[ht] at h;simp only[Ah,Aj] at h;obtain⟨rfl,rfl,rfl⟩:=h;obtain⟨a1,a2⟩:=tk ht hw';simp only[DV.enc,e1,Bg,Jg ht];rw[Ab ⟨hw0,hw'▸DI rh lh,hg.1,hg.2.1,hg.2.2⟩];exact⟨_,_,rfl,by rw[ME a2,a1],e3⟩
         · rw[Ad hw] at h;cases h
        case ownw w'=>
         simp only at h;by_cases hw:(w' == w&&rh.w == w)=true
         · rw[Ab hw] at h;simp only[Ai,AA] at hw;obtain⟨rfl,hw'⟩:=hw
           cases ht:new.to rh with
           |none=>rw[ht] at h;cases h
           | some n=>
             rw[ht] at h;simp only[Ah,Aj] at h;obtain⟨rfl,rfl,rfl⟩:=h;obtain⟨a1,a2⟩:=tk ht hw';simp only[DV.enc,e1,Bg,Jg ht];rw[Ab ⟨hw0,trivial,hw'▸DI rh lh,hg.1,hg.2.1,hg.2.2⟩];exact⟨_,_,rfl,by rw[ME a2,a1],e3⟩
         · rw[Ad hw] at h;cases h
      |[],h=>cases h
      |_::_::_,h=>cases h
     |_=>cases h
   |_=>rw[hv] at h;cases h
 · simp only[h0] at h;cases h
theorem S3{w:Nat}{v v':DV}(h:Nr w v=some v'):D1 w v.enc=some v'.enc:=by
 unfold Nr at h;split at h
 · cases h;rfl
 · split at h
   · rename_i hw;have hw:=AA.mp hw;subst hw;cases h;simp only[DV.enc,D1,Az]
   · cases h
 · rename_i r l;split at h
   · rename_i hw;have hw:=AA.mp hw;cases h;simp only[DV.enc,D1];rw[Ab (hw▸DI r l)]
   · cases h
 · split at h
   · rename_i hw;have hw:=AA.mp hw;subst hw;cases h;simp only[DV.enc,D1,Az]
   · cases h
 · cases h
theorem Yp:∀ (ws:List (Nat×Nat)) {l l':List DV},Qz ws l=some l'→JI ws (DV.encL l)=some (DV.encL l')
 |[],l,l',h=>by cases h;rfl
 | (c,w)::r,l,l',h=>by
   unfold Qz at h
   split at h
   · rename_i v hv
     unfold JI
     rw[← Ku,S3 hv]
     simp only
     rw[← Ph]
     exact Yp r h
   · cases h
theorem ll{ws:List (Nat×Nat)}{v v':DV}(h:JJ ws v=some v'):Dh ws v.enc=some v'.enc:=by
 unfold JJ at h;split at h
 · simp only[Be] at h;obtain⟨l',h1,rfl⟩:=h;show (JI ws _).map PV.agg=_;rw[Yp ws h1];rfl
 · rename_i q;split at h
   · exact S3 (v:=.nil q) h
   · cases h
 · rename_i q r l;split at h
   · exact S3 (v:=.sl q r l) h
   · cases h
 · cases h
theorem cr{ws:List (Nat×Nat)}{m:Bool}{o:AOp}{ty:Option RT}{d d':DS}{s:PS}{g:PX}{v:DV}(hs:ES d s)(h:Ja ws m o ty d=some (g,v,d'))(hg:g.den):∃ s' v0,AV m o s=some (v0,s')∧Dh ws v0=some v.enc∧ES d' s':=by
 have gen:(match A3 m o ty d with|some (g,v,st)=>(match JJ ws v with|some v=>some (g,v,st)|none=>none)|none=>none)=some (g,v,d')→∃ s' v0,AV m o s=some (v0,s')∧Dh ws v0=some v.enc∧ES d' s':=by
  intro h
  cases h1:A3 m o ty d with
  |none=>rw[h1] at h;cases h
  | some r=>
    obtain⟨g1,v1,d1⟩:=r;rw[h1] at h;simp only at h
    cases h2:JJ ws v1 with
    |none=>rw[h2] at h;cases h
    | some v2=>
      rw[h2] at h;simp only[Ah,Aj] at h;obtain⟨rfl,rfl,rfl⟩:=h;obtain⟨s',e1,e2⟩:=Vr hs h1 hg;exact⟨s',_,e1,ll h2,e2⟩
 cases o<;>first|exact gen h|skip
 case app w x y=>
  simp only[Ja] at h;split at h
  · rename_i w';split at h
    · rename_i hw;have hw:=AA.mp hw;subst hw
      cases h1:GD w' y d with
      |none=>rw[h1] at h;cases h
      | some r=>
        obtain⟨new,d1⟩:=r;rw[h1] at h;obtain⟨s1,e1,e2⟩:=Rj hs h1;obtain⟨s2,v0,e3,e4,e5⟩:=di e2 h hg;exact⟨s2,v0,by simp only[AV,e1];exact e3,e4,e5⟩
    · cases h
  · cases h
def Chg:List DC→List DC→Prop
 |_,[]=>True
 |[],c::r=>c.d=true∧Chg [] r
 |b::a,c::r=>(c.d=true∨c=b)∧Chg a r
def ChgB:List (List DC)→List (List DC)→Prop
 |_,[]=>True
 |[],c::r=>Chg [] c∧ChgB [] r
 |b::a,c::r=>Chg b c∧ChgB a r
structure ChgS (x y:DS):Prop where
 sl:Chg x.sl y.sl
 bx:ChgB x.bx y.bx
 hp:ChgB x.hp y.hp
theorem Chg.refl:∀ (x:List DC),Chg x x
 |[]=>trivial
 |_::r=>⟨.inr rfl,Chg.refl r⟩
theorem Chg.trans:∀ {x y z:List DC},Chg x y→Chg y z→Chg x z
 |_,_,[],_,_=>by cases ‹List DC›<;>trivial
 |[],[],_::_,_,h=>h
 |_::a,[],c::r,_,h=>⟨.inl h.1,Chg.trans (x:=a) (y:=[]) (by cases a<;>trivial) h.2⟩
 | [],b::a,c::r,h,h'=>by
   refine⟨?_,Chg.trans h.2 h'.2⟩
   rcases h'.1 with h1|h1
   · exact h1
   · rw[h1];exact h.1
 | e::x,b::a,c::r,h,h'=>by
   refine⟨?_,Chg.trans h.2 h'.2⟩
   rcases h'.1 with h1|h1
   · exact .inl h1
   · rw[h1];exact h.1
theorem ChgB.refl:∀ (x:List (List DC)),ChgB x x
 |[]=>trivial
 |b::r=>⟨Chg.refl b,ChgB.refl r⟩
theorem ChgB.trans:∀ {x y z:List (List DC)},ChgB x y→ChgB y z→ChgB x z
 |_,_,[],_,_=>by cases ‹List (List DC)›<;>trivial
 |[],[],_::_,_,h=>h
 |b::a,[],c::r,_,h=>⟨Chg.trans (y:=[]) (by trivial) h.1,ChgB.trans (x:=a) (y:=[]) (by cases a<;>trivial) h.2⟩
 |[],b::a,c::r,h,h'=>⟨h.1.trans h'.1,ChgB.trans h.2 h'.2⟩
 |e::x,b::a,c::r,h,h'=>⟨h.1.trans h'.1,ChgB.trans h.2 h'.2⟩
theorem ChgS.refl(x:DS):ChgS x x:=⟨Chg.refl _,ChgB.refl _,ChgB.refl _⟩
theorem ChgS.trans{x y z:DS}(h:ChgS x y)(h':ChgS y z):ChgS x z:=⟨h.sl.trans h'.sl,h.bx.trans h'.bx,h.hp.trans h'.hp⟩
theorem Chg.put:∀ (x:List DC) (n:Nat) (v:DV),Chg x (Ci x n v)
 |[],_,_=>trivial
 |_::r,0,_=>⟨.inl rfl,Chg.refl r⟩
 |_::r,n+1,v=>⟨.inr rfl,Chg.put r n v⟩
theorem Chg.clr(hd:Hd):∀ (x:List DC),Chg x (Cj hd x)
 |[]=>trivial
 | c::r=>by
   refine⟨?_,Chg.clr hd r⟩
   split
   · exact .inl rfl
   · exact .inr rfl
theorem Chg.clearBox(i:Nat):∀ (x:List DC),Chg x (LY i x)
 |[]=>trivial
 | c::r=>by
   refine⟨?_,Chg.clearBox i r⟩
   split
   · exact .inl rfl
   · exact .inr rfl
theorem Chg.keep(live:List Nat):∀ (n:Nat) (x:List DC),Chg x (P6 live n x)
 |_,[]=>trivial
 | n,c::r=>by
   refine⟨?_,Chg.keep live (n+1) r⟩
   split
   · split
     · exact .inl rfl
     · exact .inr rfl
   · exact .inl rfl
theorem Chg.trim(live:List Nat):∀ (n:Nat) (x:List DC),Chg x (Qu live n x)
 |_,[]=>trivial
 | n,c::r=>by
   refine⟨?_,Chg.trim live (n+1) r⟩
   split
   · exact .inr rfl
   · exact .inl rfl
theorem Chg.splice:∀ (x:List DC) (n:Nat) (vs:List DV),Chg x (Gd x n vs)
 |[],n,[]=>trivial
 |_::_,0,[]=>Chg.refl _
 |_::_,_+1,[]=>Chg.refl _
 |[],_,_::_=>trivial
 |_::r,0,v::vs=>⟨.inl rfl,Chg.splice r 0 vs⟩
 |_::r,n+1,v::vs=>⟨.inr rfl,Chg.splice r n (v::vs)⟩
theorem Chg.news:∀ (x:List DC) (vs:List DV),Chg x (Go.Ag.news vs)
 |x,[]=>by cases x<;>trivial
 |[],v::vs=>⟨rfl,Chg.news [] vs⟩
 |_::a,v::vs=>⟨.inl rfl,Chg.news a vs⟩
theorem ChgB.put:∀ (x:List (List DC)) (i:Nat) {v:List DC},Chg (A9 x i) v→ChgB x (DR x i v)
 |[],_,_,_=>trivial
 |_::r,0,_,h=>⟨h,ChgB.refl r⟩
 |_::r,n+1,v,h=>⟨Chg.refl _,ChgB.put r n h⟩
theorem ChgB.app:∀ (x:List (List DC)) (vs:List DV),ChgB x (x++[Go.Ag.news vs])
 |[],vs=>⟨Chg.news [] vs,trivial⟩
 |b::r,vs=>⟨Chg.refl b,ChgB.app r vs⟩
theorem Chg.rem:∀ {x y:List DC},Chg (Go.Ag.clean x) y→Chg x (Lo x y)
 |x,[],_=>by cases x<;>trivial
 |[],_::_,h=>h
 | b :: a,c::r,h=>by
   refine⟨?_,Chg.rem h.2⟩
   rcases h.1 with h1|h1
   · left;simp[h1]
   · subst h1
     cases hb:b.d with
     |true=>left;rfl
     |false=>right;obtain⟨d,v⟩:=b;simp only at hb;subst hb;rfl
theorem ChgB.rem:∀ {x y:List (List DC)},ChgB (K5 x) y→ChgB x (Nv x y)
 |x,[],_=>by cases x<;>trivial
 |[],_::_,h=>h
 |b::a,c::r,h=>⟨h.1.rem,ChgB.rem h.2⟩
theorem ChgS.rem{x y:DS}(h:ChgS x.clean y):ChgS x (Iv x y):=⟨h.sl.rem,h.bx.rem,h.hp.rem⟩
theorem ChgS.put(d:DS)(n:Option Nat)(v:DV):ChgS d (d.put n v):=by
 cases n with
 |none=>exact ChgS.refl d
 | some n=>
   simp only[DS.put];split
   · exact⟨(Chg.put _ _ _).trans (Chg.clr _ _),ChgB.refl _,ChgB.refl _⟩
   · exact⟨Chg.put _ _ _,ChgB.refl _,ChgB.refl _⟩
theorem ChgS.mvOut(x:Opnd)(d:DS):ChgS d (AG x d).2:=by
 cases x with
 |c v=>exact ChgS.refl d
 | t n=>
   simp only[AG,Nq];split
   · split
     · exact ChgS.refl d
     · exact⟨(Chg.put _ _ _).trans (Chg.clr _ _),ChgB.refl _,ChgB.refl _⟩
   · exact ChgS.refl d
theorem ChgS.fzOut(x:Opnd)(d:DS):ChgS d (Jj x d).2:=by
 cases x with
 |c v=>exact ChgS.refl d
 | t n=>
   simp only[Jj,QF];split
   · split
     · exact⟨(Chg.put _ _ _).trans (Chg.clr _ _),ChgB.refl _,ChgB.refl _⟩
     · exact ChgS.refl d
   · exact ChgS.refl d
theorem ChgS.setK(d:DS)(v:DV):∀ (hd:Hd) (p:List Nat),ChgS d (EG d v hd p)
 |.s t,p=>⟨(Chg.put _ _ _).trans (Chg.clr _ _),ChgB.refl _,ChgB.refl _⟩
 |.b i,[c]=>⟨Chg.clr _ _,ChgB.put _ _ (Chg.put _ _ _),ChgB.refl _⟩
 |.h i,[c]=>⟨Chg.clr _ _,ChgB.refl _,ChgB.put _ _ (Chg.put _ _ _)⟩
 |.b i,[]=>ChgS.refl d
 |.b i,_::_::_=>ChgS.refl d
 |.h i,[]=>ChgS.refl d
 |.h i,_::_::_=>ChgS.refl d
 |.x i,_=>ChgS.refl d
theorem RF:∀ (ps:List (Nat×Nat×Opnd)) {cs cs':List DV} {d d':DS},Gv cs ps d=some (cs',d')→ChgS d d'
 | [],cs,cs',d,d',h=>by
   simp only[Gv,Ah,Aj] at h
   obtain⟨_,rfl⟩:=h
   exact ChgS.refl d
 | (off,size,x)::r,cs,cs',d,d',h=>by
   unfold Gv at h
   split at h
   · exact(ChgS.mvOut x d).trans (RF r h)
   · cases h
theorem RQ{w:Nat}{y:Opnd}{d d':DS}{new:DSrc}(h:GD w y d=some (new,d')):ChgS d d':=by
 unfold GD at h
 split at h<;>(try split at h)<;>first|(cases h;done)|(simp only[Ah,Aj] at h;obtain⟨_,rfl⟩:=h;first|exact ChgS.refl _|exact ChgS.mvOut y d)
theorem WW{w:Nat}{x:Opnd}{new:DSrc}{d d':DS}{g:PX}{v:DV}(h:Lp w x new d=some (g,v,d')):ChgS d d':=by
 unfold Lp at h;split at h
 · cases h
 · repeat' split at h
   all_goals first|(cases h;done)|(simp only[Ah,Aj] at h;obtain⟨_,_,rfl⟩:=h;first|exact ChgS.mvOut x d|exact ChgS.setK _ _ _ _)
theorem VP{m:Bool}{i:Nat}{n:Option Nat}{a:DV}{d d':DS}{g:PX}{v:DV}(h:Jh m i n a d=some (g,v,d')):ChgS d d':=by
 unfold Jh at h;split at h
 · cases m with
   | true=>
     simp only[Az] at h;split at h
     · simp only[Be,Aj] at h;obtain⟨_,_,_,_,rfl⟩:=h;exact⟨Chg.clr _ _,ChgB.put _ _ (Chg.splice _ _ _),ChgB.refl _⟩
     · cases h
   | false=>
     simp only[As,AB] at h;split at h
     · simp only[Be,Aj] at h;obtain⟨_,_,_,_,rfl⟩:=h;exact ChgS.refl _
     · cases h
 · cases h
theorem V8{m:Bool}{n:Option Nat}{a:DV}{d d':DS}{g:PX}{v:DV}(h:Ia m n a d=some (g,v,d')):ChgS d d':=by
 unfold Ia at h;split at h
 · cases m with
   | true=>
     simp only[Az] at h;split at h
     · simp only[Be,Aj] at h;obtain⟨_,_,_,_,rfl⟩:=h;exact⟨Chg.clr _ _,ChgB.refl _,ChgB.put _ _ (Chg.splice _ _ _)⟩
     · cases h
   | false=>
     simp only[As,AB] at h;split at h
     · simp only[Be,Aj] at h;obtain⟨_,_,_,_,rfl⟩:=h;exact ChgS.refl _
     · cases h
 · split at h
   · split at h
     · simp only[Be,Aj] at h;obtain⟨_,_,_,_,rfl⟩:=h;exact ChgS.refl _
     · cases h
   · cases h
 · cases h
theorem dr{i n:Nat}{a x:Opnd}{d d':DS}{g:PX}{v:DV}(h:Mx i n a x d=some (g,v,d')):ChgS d d':=by
 unfold Mx at h;simp only at h;split at h
 · split at h
   · simp only[Ah,Aj] at h;obtain⟨_,_,rfl⟩:=h;refine(ChgS.mvOut x d).trans ⟨?_,ChgB.put _ _ (Chg.splice _ _ _),ChgB.refl _⟩;split
     · exact Chg.clr _ _
     · exact Chg.refl _
   · cases h
 · cases h
theorem dh{n:Nat}{a x:Opnd}{d d':DS}{g:PX}{v:DV}(h:My n a x d=some (g,v,d')):ChgS d d':=by
 unfold My at h;simp only at h;split at h
 · split at h
   · simp only[Ah,Aj] at h;obtain⟨_,_,rfl⟩:=h;refine(ChgS.mvOut x d).trans ⟨?_,ChgB.refl _,ChgB.put _ _ (Chg.splice _ _ _)⟩;dsimp only;split
     · exact Chg.clr _ _
     · exact Chg.refl _
   · cases h
 · split at h
   · split at h
     · split at h
       · simp only[Ah,Aj] at h;obtain⟨_,_,rfl⟩:=h;exact(ChgS.mvOut x d).trans (ChgS.setK _ _ _ _)
       · cases h
     · cases h
   · cases h
 · cases h
theorem WB{m:Bool}{n:Option Nat}{a:DV}{d d':DS}{r:C5}{g:PX}{v:DV}(h:Gi m n a d=some r)(hr:r=some (g,v,d')):ChgS d d':=by
 unfold Gi at h;split at h
 · simp only[Ah] at h;rw[hr] at h;split at h
   · simp only[Ah,Aj] at h;obtain⟨_,_,rfl⟩:=h;exact ChgS.refl _
   · cases h
 · cases h
theorem dD{n:Nat}{hd:Hd}{p k j o:Nat}{w:DV}{d d':DS}{g:PX}{v:DV}(h:MA n hd p k j o w d=some (g,v,d')):ChgS d d':=by
 unfold MA at h;split at h
 · split at h
   · split at h
     · simp only[Ah,Aj] at h;obtain⟨_,_,rfl⟩:=h;exact ChgS.setK _ _ _ _
     · cases h
   · cases h
 · cases h
theorem j2(x:Opnd)(d:DS):(Hj x d).2=d:=by cases x<;>rfl
theorem fy{w:Nat}{new:DSrc}{d d':DS}{g:PX}{v:DV}(h:Iq w new d=some (g,v,d')):d'=d:=by
 unfold Iq at h;split at h<;>(simp only[Ah,Aj] at h;exact h.2.2.symm)
theorem fN{w:Nat}{x:Opnd}{new:DSrc}{d d':DS}{g:PX}{v:DV}(h:M5 w x new d=some (g,v,d')):ChgS d d':=by
 unfold M5 at h;split at h
 · cases h
 · repeat' split at h
   all_goals first|(cases h;done)|(have:=fy h;subst this;exact ChgS.mvOut x d)|(simp only[Ah,Aj] at h;obtain⟨_,_,rfl⟩:=h;first|exact ChgS.mvOut x d|exact ChgS.setK _ _ _ _)
theorem Wl{m:Bool}{o:AOp}{ty:Option RT}{d d':DS}{g:PX}{v:DV}(h:A3 m o ty d=some (g,v,d')):ChgS d d':=by
 have pure:(Lc o (fun x=>x.dev d.sl)).map (fun r=>(r.1,r.2,d))=some (g,v,d')→ChgS d d':=fun h=>by
  simp only[Be,Aj] at h;obtain⟨_,_,_,_,rfl⟩:=h;exact ChgS.refl _
 cases o<;>first|exact pure h|skip
 case mv x=>
  cases m with
  | true=>
    simp only[A3,Az] at h;split at h
    · simp only[Ah,Aj] at h;obtain⟨_,_,rfl⟩:=h;rw[j2];exact ChgS.refl d
    · cases h
  | false=>
    simp only[A3,As,AB] at h;split at h
    · simp only[Ah,Aj] at h;obtain⟨_,_,rfl⟩:=h;exact ChgS.mvOut x d
    · cases h
 case loadB i n a=>exact VP h
 case loadH n a=>
  simp only[A3] at h;split at h
  · rename_i h1;exact WB h1 h
  · exact V8 h
 case loadX i c n a=>
  simp only[A3] at h;split at h
  · split at h
    · rename_i h1;exact WB h1 h
    · cases h
  · cases h
 case storeB i n a x=>exact dr h
 case storeH n a x=>
  simp only[A3] at h;split at h
  · split at h
    · exact dD h
    · exact dh h
  · cases h
 case app w x y=>
  simp only[A3] at h;split at h
  · rename_i h1;exact(RQ h1).trans (WW h)
  · cases h
 case appN w x y=>
  simp only[A3] at h;split at h
  · split at h
    · rename_i h1;exact(RQ h1).trans (WW h)
    · cases h
  · cases h
 case allocB i zs=>
  simp only[A3] at h;split at h
  · simp only[Ah,Aj] at h;obtain⟨_,_,rfl⟩:=h;exact⟨(Chg.clearBox _ _).trans (Chg.clr _ _),ChgB.put _ _ (Chg.news _ _),ChgB.refl _⟩
  · cases h
 case boxB i n x=>
  simp only[A3] at h;split at h
  · simp only[Ah,Aj] at h;obtain⟨_,_,rfl⟩:=h;exact(ChgS.mvOut x d).trans ⟨(Chg.clearBox _ _).trans (Chg.clr _ _),ChgB.put _ _ (Chg.news _ _),ChgB.refl _⟩
  · cases h
 case allocH zs=>
  simp only[A3] at h;split at h
  · simp only[Ah,Aj] at h;obtain⟨_,_,rfl⟩:=h;exact⟨Chg.clr _ _,ChgB.refl _,ChgB.app _ _⟩
  · cases h
 case boxH n x=>
  simp only[A3] at h;split at h
  · simp only[Ah,Aj] at h;obtain⟨_,_,rfl⟩:=h;exact(ChgS.mvOut x d).trans ⟨Chg.clr _ _,ChgB.refl _,ChgB.app _ _⟩
  · cases h
 case build zs ps=>
  simp only[A3] at h;split at h
  · split at h
    · rename_i hf;simp only[Ah,Aj] at h;obtain⟨_,_,rfl⟩:=h;exact RF ps hf
    · cases h
  · cases h
 case mkSlice w z len=>
  simp only[A3] at h
  repeat' split at h
  all_goals first|(cases h;done)|(simp only[Ah,Aj] at h;obtain⟨_,_,rfl⟩:=h;exact ChgS.refl _)
 case litSlice w n zs ps=>
  simp only[A3] at h;split at h
  · simp only[Ah,Aj] at h;obtain⟨_,_,rfl⟩:=h;exact ChgS.refl _
  · split at h
    · split at h
      · rename_i hf;have:=RF ps hf
        repeat' split at h
        all_goals first|(cases h;done)|(simp only[Ah,Aj] at h;obtain⟨_,_,rfl⟩:=h;exact this)
      · cases h
    · cases h
 case extract x i=>
  simp only[A3] at h
  repeat' split at h
  all_goals first|(cases h;done)|(simp only[Ah,Aj] at h;obtain⟨_,_,rfl⟩:=h;first|exact ChgS.refl _|exact⟨(Chg.put _ _ _).trans (Chg.clr _ _),ChgB.refl _,ChgB.refl _⟩)
theorem dL{ws:List (Nat×Nat)}{m:Bool}{o:AOp}{ty:Option RT}{d d':DS}{g:PX}{v:DV}(h:Ja ws m o ty d=some (g,v,d')):ChgS d d':=by
 have gen:(match A3 m o ty d with|some (g,v,st)=>(match JJ ws v with|some v=>some (g,v,st)|none=>none)|none=>none)=some (g,v,d')→ChgS d d':=by
  intro h
  cases h1:A3 m o ty d with
  |none=>rw[h1] at h;cases h
  | some r=>
    obtain⟨g1,v1,d1⟩:=r;rw[h1] at h;simp only at h
    cases h2:JJ ws v1 with
    |none=>rw[h2] at h;cases h
    | some v2=>
      rw[h2] at h;simp only[Ah,Aj] at h;obtain⟨_,_,rfl⟩:=h;exact Wl h1
 cases o<;>first|exact gen h|skip
 case app w x y=>
  simp only[Ja] at h;split at h
  · split at h
    · split at h
      · rename_i h1;exact(RQ h1).trans (fN h)
      · cases h
    · cases h
  · cases h
theorem Hh{α:Type}(x y:α):bSel true x y=x:=by simp only[Th,Fa,Fb]
theorem FN{α:Type}(x y:α):bSel false x y=y:=by simp only[Th,Fa,Fb]
theorem YS(c:Bool)(x y:BX):(QE c x y).b=bif c then x.b else y.b:=by
 cases x<;>cases y<;>rename_i x y<;>cases c<;>cases x<;>cases y<;>simp[QE,BX.b,K3,YV,S5,Th]
theorem Jc{q q':Ql}(h:Di q q'=true):q=q':=of_decide_eq_true h
mutual
theorem PM(c:Bool):∀ (x y:DV),Ca c x y= .any∨(Ca c x y).enc=(bif c then x.enc else y.enc)
 | .undef,y=>by
   cases y<;>first|exact .inl rfl|skip
   case undef=>cases c<;>exact .inr rfl
 | .bool a,y=>by
   cases y<;>first|exact .inl rfl|skip
   case bool b=>right;simp only[Ca,DV.enc,YS];cases c<;>rfl
 | .int k a,y=>by
   cases y<;>first|exact .inl rfl|skip
   case int k' b=>
    simp only[Ca]
    split
    · rename_i hk;have:=PD hk;subst this
      right;cases c<;>simp only[DV.enc,Hh,FN,Fa,Fb]
    · exact .inl rfl
 | .str a,y=>by
   cases y<;>first|exact .inl rfl|skip
   case str b=>right;cases c<;>simp only[Ca,DV.enc,Hh,FN,Fa,Fb]
 | .ifc a,y=>by
   cases y<;>first|exact .inl rfl|skip
   case ifc b=>right;cases c<;>simp only[Ca,DV.enc,Hh,FN,Fa,Fb]
 | .nil q,y=>by
   cases y<;>first|exact .inl rfl|skip
   case nil q'=>
    simp only[Ca]
    split
    · rename_i hq;have:=Jc hq;subst this;right;cases c<;>rfl
    · exact .inl rfl
   case sl q' r l=>
    simp only[Ca]
    split
    · rename_i hq;have:=Jc hq;subst this;right
      cases c<;>simp only[DV.enc,Hh,FN,Fa,Fb,K0]
    · exact .inl rfl
 | .sl q r l,y=>by
   cases y<;>first|exact .inl rfl|skip
   case nil q'=>
    simp only[Ca]
    split
    · rename_i hq;have:=Jc hq;subst this;right
      cases c<;>simp only[DV.enc,Hh,FN,Fa,Fb,K0]
    · exact .inl rfl
   case sl q' r' l'=>
    simp only[Ca]
    split
    · rename_i hq;have:=Jc hq;subst this
      split
      · rename_i l2 hl
        right
        cases c<;>simp only[DV.enc,Hh,FN,Fa,Fb,(Pb hl).2]
      · exact .inl rfl
    · exact .inl rfl
 | .box i o,y=>by
   cases y<;>first|exact .inl rfl|skip
   case box i' o'=>
    simp only[Ca]
    split
    · rename_i h;simp only[Ai,AA] at h;obtain⟨rfl,rfl⟩:=h;right;cases c<;>rfl
    · exact .inl rfl
 | .ptr i o,y=>by
   cases y<;>first|exact .inl rfl|skip
   case ptr i' o'=>
    simp only[Ca]
    split
    · rename_i h;simp only[Ai,AA] at h;obtain⟨rfl,rfl⟩:=h;right;cases c<;>rfl
    · exact .inl rfl
 | .agg a,y=>by
   cases y<;>first|exact .inl rfl|skip
   case agg b=>
    simp only[Ca]
    split
    · rename_i h;simp only[Ai,AA] at h
      right
      have:=SY c a b h.1 h.2
      cases c<;>simp only[DV.enc,this,Fa,Fb]
    · exact .inl rfl
 | .tup a,y=>by
   cases y<;>first|exact .inl rfl|skip
   case tup b=>
    simp only[Ca]
    split
    · rename_i h;simp only[Ai,AA] at h
      right
      have:=SY c a b h.1 h.2
      cases c<;>simp only[DV.enc,this,Fa,Fb]
    · exact .inl rfl
 |.any,y=>by cases y<;>exact .inl rfl
 |.ep _ _ _ _ _,y=>by cases y<;>exact .inl rfl
theorem SY(c:Bool):∀ (x y:List DV),x.length=y.length→DV.okL (Hm c x y)=true→DV.encL (Hm c x y)=(bif c then DV.encL x else DV.encL y)
 |[],[],_,_=>by cases c<;>rfl
 |[],_::_,h,_=>by cases h
 |_::_,[],h,_=>by cases h
 | x :: a,y::b,h,hk=>by
   simp only[Hm,DV.okL,Ai] at hk
   have h1:=SY c a b (by simpa using h) hk.2
   rcases PM c x y with h2|h2
   · rw[h2] at hk;cases hk.1
   · simp only[Hm,DV.encL,h1,h2]
     cases c<;>rfl
end
theorem jn{c:Bool}{x y:DV}{p:PV}(h:EV (bif c then x else y) p):EV (Ca c x y) p:=by
 rcases PM c x y with h1|h1
 · exact .inl h1
 · cases c with
   | true=>
     rcases h with h|h
     · simp only[Fa] at h;subst h;exact .inl (by cases y<;>rfl)
     · exact .inr (by rw[h1];exact h)
   | false=>
     rcases h with h|h
     · simp only[Fb] at h;subst h;exact .inl (by cases x<;>rfl)
     · exact .inr (by rw[h1];exact h)
theorem SI{c:Bool}:∀ {b x y:List DC} {p:List PV},Chg b x→Chg b y→x.length=y.length→EL (bif c then x else y) p→EL (M6 c x y) p
 |_,[],[],p,_,_,_,h=>by cases c<;>exact h
 |_,[],_::_,_,_,_,h,_=>by cases h
 |_,_::_,[],_,_,_,h,_=>by cases h
 |b,x::a,y::e,[],_,_,_,h=>by cases c<;>exact h.elim
 | b,x::a,y::e,q::p,h1,h2,hl,h=>by
   have hr:∃ b',Chg b' a∧Chg b' e∧((x.d=true∨y.d=true)∨x=y):=by
    cases b with
    |nil=>exact⟨[],h1.2,h2.2,.inl (.inl h1.1)⟩
    | cons b0 b=>
      refine⟨b,h1.2,h2.2,?_⟩;rcases h1.1 with e1|e1
      · exact .inl (.inl e1)
      · rcases h2.1 with e2|e2
        · exact .inl (.inr e2)
        · exact .inr (e1.trans e2.symm)
   obtain⟨b',h3,h4,h5⟩:=hr;have ih:=SI (c:=c) (p:=p) h3 h4 (by simpa using hl) (by cases c<;>exact h.2);refine⟨?_,ih⟩
   have hv:EV (bif c then x.v else y.v) q:=by cases c<;>exact h.1
   unfold QB;split
   · exact jn hv
   · rename_i hd;rcases h5 with h5|h5
     · exfalso;apply hd;rcases h5 with h5|h5<;>simp[h5]
     · subst h5;cases c<;>exact hv
theorem SH{c:Bool}:∀ {b x y:List (List DC)} {p:List (List PV)},ChgB b x→ChgB b y→x.length=y.length→EB (bif c then x else y) p→EB (Nh c x y) p
 |_,[],[],p,_,_,_,h=>by cases c<;>exact h
 |_,[],_::_,_,_,_,h,_=>by cases h
 |_,_::_,[],_,_,_,h,_=>by cases h
 |b,x::a,y::e,[],_,_,_,h=>by cases c<;>exact h.elim
 | b,x::a,y::e,q::p,h1,h2,hl,h=>by
   have hr:∃ b0 b',Chg b0 x∧Chg b0 y∧ChgB b' a∧ChgB b' e:=by
    cases b with
    |nil=>exact⟨[],[],h1.1,h2.1,h1.2,h2.2⟩
    |cons b0 b=>exact⟨b0,b,h1.1,h2.1,h1.2,h2.2⟩
   obtain⟨b0,b',h3,h4,h5,h6⟩:=hr;have ih:=SH (c:=c) (p:=p) h5 h6 (by simpa using hl) (by cases c<;>exact h.2);refine⟨?_,ih⟩
   have hv:EBx (bif c then x else y) q:=by cases c<;>exact h.1
   split
   · rename_i hxy
     have hxy:x.length=y.length:=by simpa using hxy
     rcases hv with hv|hv
     · cases c
       · simp only[Fb] at hv;subst hv;have:x=[]:=Ex hxy;subst this;exact .inl rfl
       · simp only[Fa] at hv;subst hv;have:y=[]:=Ex hxy.symm;subst this;exact .inl rfl
     · exact .inr (SI h3 h4 hxy hv)
   · exact .inl rfl
theorem kv{c:Bool}{b x y z:DS}{s:PS}(hx:ChgS b x)(hy:ChgS b y)(h:JE c x y=some z)(hs:ES (bif c then x else y) s):ES z s:=by
 unfold JE at h;split at h
 · rename_i hl;simp only[Ai,AA] at hl;simp only[Ah] at h;subst h;exact⟨SI hx.sl hy.sl hl.1.1 (by cases c<;>exact hs.sl),SH hx.bx hy.bx hl.1.2 (by cases c<;>exact hs.bx),SH hx.hp hy.hp hl.2 (by cases c<;>exact hs.hp)⟩
 · cases h
theorem L0{c:Bool}:∀ {b x y:List DC},Chg b x→Chg b y→Chg b (M6 c x y)
 |b,[],_,_,_=>by cases b<;>trivial
 |b,_::_,[],_,_=>by cases b<;>trivial
 |[],x::a,y::e,h,h'=>⟨by simp[QB,h.1],L0 h.2 h'.2⟩
 | b::_,x::a,y::e,h,h'=>by
   refine⟨?_,L0 h.2 h'.2⟩
   unfold QB
   split
   · exact .inl rfl
   · exact h.1
theorem O6{c:Bool}:∀ {b x y:List (List DC)},ChgB b x→ChgB b y→ChgB b (Nh c x y)
 |b,[],_,_,_=>by cases b<;>trivial
 |b,_::_,[],_,_=>by cases b<;>trivial
 | [],x::a,y::e,h,h'=>by
   refine⟨?_,O6 h.2 h'.2⟩
   split
   · exact L0 h.1 h'.1
   · trivial
 | b::_,x::a,y::e,h,h'=>by
   refine⟨?_,O6 h.2 h'.2⟩
   split
   · exact L0 h.1 h'.1
   · cases b<;>trivial
theorem iE{c:Bool}{b x y z:DS}(hx:ChgS b x)(hy:ChgS b y)(h:JE c x y=some z):ChgS b z:=by
 unfold JE at h;split at h
 · simp only[Ah] at h;subst h;exact⟨L0 hx.sl hy.sl,O6 hx.bx hy.bx,O6 hx.hp hy.hp⟩
 · cases h
theorem PX.land_den:∀ (a b:PX),(a.land b).den↔a.den∧b.den
 |.tt,b=>by simp[PX.land,PX.den]
 |.ff,b=>by simp[PX.land,PX.den]
 |.p h,b=>by cases b<;>simp[PX.land,PX.den]
 |.and x y,b=>by cases b<;>simp[PX.land,PX.den]
 |.ite c x y,b=>by cases b<;>simp[PX.land,PX.den]
theorem PX.if_den(c:Bool)(a b:PX):(PX.if' c a b).den↔(c=true→a.den)∧(c=false→b.den):=by
 cases a<;>cases b<;>simp[PX.if',PX.den]
def AExit.isN:AExit→Bool
 |.normal=>true
 |_=>false
def DT.lf:DT→Option (AExit×DS)
 |.leaf e st=>some (e,st)
 |.node c a b=>(match c with|true=>a.lf|false=>b.lf)
 |.chk _ t=>t.lf
 |.bad=>none
def DT.All(P:DS→Prop):DT→Prop
 |.leaf _ st=>P st
 |.node _ a b=>a.All P∧b.All P
 |.chk _ t=>t.All P
 |.bad=>True
theorem DT.All.imp{P Q:DS→Prop}(h:∀ st,P st→Q st):∀ {t:DT},t.All P→t.All Q
 |.leaf _ _,a=>h _ a
 |.node _ _ _,a=>⟨DT.All.imp h a.1,DT.All.imp h a.2⟩
 |.chk _ t,a=>DT.All.imp h (t:=t) a
 |.bad,_=>trivial
theorem DT.ok_lf:∀ {t:DT},t.ok.den→∃ e st,t.lf=some (e,st)
 |.leaf e st,_=>⟨e,st,rfl⟩
 | .node c a b,h=>by
   have h:=(PX.if_den c a.ok b.ok).mp h
   cases c
   · exact DT.ok_lf (t:=b) (h.2 rfl)
   · exact DT.ok_lf (t:=a) (h.1 rfl)
 |.chk g t,h=>DT.ok_lf (t:=t) ((PX.land_den g t.ok).mp h).2
 |.bad,h=>h.elim
theorem DT.All.lf{P:DS→Prop}:∀ {t:DT} {e:AExit} {st:DS},t.All P→t.lf=some (e,st)→P st
 |.leaf e st,_,_,h,hl=>by simp only[DT.lf,Ah,Aj] at hl;obtain⟨_,rfl⟩:=hl;exact h
 | .node c a b,_,_,h,hl=>by
   cases c
   · exact DT.All.lf (t:=b) h.2 hl
   · exact DT.All.lf (t:=a) h.1 hl
 |.chk g t,_,_,h,hl=>DT.All.lf (t:=t) h hl
 |.bad,_,_,_,hl=>by cases hl
theorem DT.norm_chg{b:DS}:∀ {t:DT} {m:DS},t.All (ChgS b)→t.norm= .some m→ChgS b m
 | .leaf e st,m,h,hn=>by
   cases e<;>simp only[DT.norm,reduceCtorEq,NS.some.injEq] at hn
   subst hn;exact h
 | .node c x y,m,h,hn=>by
   simp only[DT.norm] at hn
   cases h1:x.norm with
   |none=>rw[h1] at hn;exact DT.norm_chg h.2 hn
   | fail=>
     rw[h1] at hn
     cases h2:y.norm<;>rw[h2] at hn<;>cases hn
   | some a=>
     rw[h1] at hn
     cases h2:y.norm with
     |none=>rw[h2] at hn;exact DT.norm_chg h.1 (h1.trans hn)
     |fail=>rw[h2] at hn;cases hn
     | some e=>
       rw[h2] at hn
       simp only at hn
       cases h3:JE c a e with
       |none=>rw[h3] at hn;cases hn
       | some z=>
         rw[h3] at hn
         simp only[NS.some.injEq] at hn
         subst hn
         exact iE (DT.norm_chg h.1 h1) (DT.norm_chg h.2 h2) h3
 |.chk g t,m,h,hn=>DT.norm_chg (t:=t) h hn
 |.bad,m,h,hn=>by cases hn
theorem DT.norm_none:∀ {t:DT} {e:AExit} {st:DS},t.norm= .none→t.lf=some (e,st)→e.isN=false
 | .leaf e st,_,_,hn,hl=>by
   simp only[DT.lf,Ah,Aj] at hl;obtain⟨rfl,_⟩:=hl
   cases e<;>first|rfl|cases hn
 | .node c x y,e,st,hn,hl=>by
   simp only[DT.norm] at hn
   have hxy:x.norm= .none∧y.norm= .none:=by
    cases h1:x.norm<;>rw[h1] at hn<;>cases h2:y.norm<;>rw[h2] at hn<;>first|exact⟨rfl,rfl⟩|(cases hn;done)|(simp only at hn;split at hn<;>cases hn)
   cases c
   · exact DT.norm_none hxy.2 hl
   · exact DT.norm_none hxy.1 hl
 |.chk g t,_,_,hn,hl=>DT.norm_none (t:=t) hn hl
 |.bad,_,_,_,hl=>by cases hl
theorem DT.norm_s{b:DS}:∀ {t:DT} {m st:DS} {s:PS},t.All (ChgS b)→t.norm= .some m→t.lf=some (.normal,st)→ES st s→ES m s
 | .leaf e st0,m,st,s,h,hn,hl,hs=>by
   simp only[DT.lf,Ah,Aj] at hl
   obtain⟨rfl,rfl⟩:=hl
   simp only[DT.norm,NS.some.injEq] at hn
   subst hn;exact hs
 | .node c x y,m,st,s,h,hn,hl,hs=>by
   simp only[DT.norm] at hn
   cases h1:x.norm with
   | none=>
     rw[h1] at hn
     cases c with
     |true=>have:=DT.norm_none h1 hl;cases this
     |false=>exact DT.norm_s h.2 hn hl hs
   | fail=>
     rw[h1] at hn
     cases h2:y.norm<;>rw[h2] at hn<;>cases hn
   | some a=>
     rw[h1] at hn
     cases h2:y.norm with
     | none=>
       rw[h2] at hn
       cases c with
       |true=>exact DT.norm_s h.1 (h1.trans hn) hl hs
       |false=>have:=DT.norm_none h2 hl;cases this
     |fail=>rw[h2] at hn;cases hn
     | some e=>
       rw[h2] at hn
       simp only at hn
       cases h3:JE c a e with
       |none=>rw[h3] at hn;cases hn
       | some z=>
         rw[h3] at hn
         simp only[NS.some.injEq] at hn
         subst hn
         refine kv (DT.norm_chg h.1 h1) (DT.norm_chg h.2 h2) h3 ?_
         cases c with
         |true=>exact DT.norm_s h.1 h1 hl hs
         |false=>exact DT.norm_s h.2 h2 hl hs
 |.chk g t,m,st,s,h,hn,hl,hs=>DT.norm_s (t:=t) h hn hl hs
 |.bad,m,st,s,h,hn,hl,hs=>by cases hl
theorem DT.cont_s:∀ {t:DT} {b:BX} {e:AExit} {st:DS},t.cont=some b→t.lf=some (e,st)→b.b=e.isN
 | .leaf e st0,b,e',st,hc,hl=>by
   simp only[DT.lf,Ah,Aj] at hl;obtain⟨rfl,_⟩:=hl;cases e<;>simp only[DT.cont,Ah] at hc<;>subst hc<;>rfl
 | .node c x y,b,e,st,hc,hl=>by
   have hno:∀ {t:DT},t.cont=none→t.lf=none:=by
    intro t
    induction t with
    |leaf e st=>intro h;cases e<;>cases h
    | node c x y ih1 ih2=>
      intro h;simp only[DT.cont] at h
      cases h1:x.cont<;>rw[h1] at h<;>cases h2:y.cont<;>rw[h2] at h<;>first|(cases h;done)|skip
      cases c
      · exact ih2 h2
      · exact ih1 h1
    |chk g t ih=>intro h;exact ih h
    |bad=>intro _;rfl
   simp only[DT.cont] at hc
   cases h1:x.cont with
   | none=>
     rw[h1] at hc
     cases c with
     |true=>simp only[DT.lf,hno h1] at hl;cases hl
     |false=>exact DT.cont_s hc hl
   | some p=>
     rw[h1] at hc
     cases h2:y.cont with
     | none=>
       rw[h2] at hc
       cases c with
       |true=>exact DT.cont_s (h1.trans hc) hl
       |false=>simp only[DT.lf,hno h2] at hl;cases hl
     | some q=>
       rw[h2] at hc;simp only[Ah] at hc;subst hc;rw[YS]
       cases c with
       |true=>exact DT.cont_s h1 hl
       |false=>exact DT.cont_s h2 hl
 |.chk g t,b,e,st,hc,hl=>DT.cont_s (t:=t) hc hl
 |.bad,b,e,st,hc,hl=>by cases hl
theorem DT.cont_none:∀ {t:DT},t.cont=none→t.lf=none
 |.leaf e st,h=>by cases e<;>cases h
 | .node c x y,h=>by
   simp only[DT.cont] at h
   cases h1:x.cont<;>rw[h1] at h<;>cases h2:y.cont<;>rw[h2] at h<;>first|(cases h;done)|skip
   cases c
   · exact DT.cont_none (t:=y) h2
   · exact DT.cont_none (t:=x) h1
 |.chk g t,h=>DT.cont_none (t:=t) h
 |.bad,_=>rfl
theorem DT.drop_lf:∀ {t:DT} {e:AExit} {st:DS},t.lf=some (e,st)→e.isN=false→t.drop.lf=some (e,st)
 | .leaf e st0,e',st,hl,he=>by
   simp only[DT.lf,Ah,Aj] at hl;obtain⟨rfl,rfl⟩:=hl
   cases e<;>first|rfl|cases he
 | .node c x y,e,st,hl,he=>by
   have hnb:∀ a b:DT,(DT.nodeB c a b).lf=some (e,st)∨(match c with|true=>a.lf|false=>b.lf)≠some (e,st):=by
    intro a b
    cases c with
    | true=>
      cases ha:a with
      |bad=>right;simp[DT.lf]
      | _=>
        rw[← ha];by_cases h:a.lf=some (e,st)
        · left;cases hb:b<;>rw[ha] at h ⊢<;>exact h
        · right;exact h
    | false=>
      cases hb:b with
      |bad=>right;simp[DT.lf]
      | _=>
        rw[← hb];by_cases h:b.lf=some (e,st)
        · left;cases ha:a<;>rw[hb] at h ⊢<;>exact h
        · right;exact h
   simp only[DT.drop];rcases hnb x.drop y.drop with h|h
   · exact h
   · exfalso;apply h
     cases c with
     |true=>exact DT.drop_lf (t:=x) hl he
     |false=>exact DT.drop_lf (t:=y) hl he
 |.chk g t,e,st,hl,he=>DT.drop_lf (t:=t) hl he
 |.bad,e,st,hl,he=>by cases hl
theorem DT.drop_all{P:DS→Prop}:∀ {t:DT},t.All P→t.drop.All P
 |.leaf e st,h=>by cases e<;>first|trivial|exact h
 | .node c x y,h=>by
   have h1:=DT.drop_all h.1
   have h2:=DT.drop_all h.2
   simp only[DT.drop]
   cases hx:x.drop<;>cases hy:y.drop<;>rw[hx] at h1<;>rw[hy] at h2<;>first|trivial|exact h1|exact h2|exact⟨h1,h2⟩
 |.chk g t,h=>DT.drop_all (t:=t) h
 |.bad,_=>trivial
theorem DT.map_lf(f:DS→DS):∀ (t:DT),(t.map f).lf=t.lf.map fun x=>(x.1,f x.2)
 |.leaf _ _=>rfl
 | .node c a b=>by
   cases c
   · exact DT.map_lf f b
   · exact DT.map_lf f a
 |.chk _ t=>DT.map_lf f t
 |.bad=>rfl
theorem DT.map_ok(f:DS→DS):∀ (t:DT),(t.map f).ok=t.ok
 |.leaf _ _=>rfl
 |.node c a b=>by simp only[DT.map,DT.ok,DT.map_ok f a,DT.map_ok f b]
 |.chk _ t=>by simp only[DT.map,DT.ok,DT.map_ok f t]
 |.bad=>rfl
theorem DT.map_all{P Q:DS→Prop}{f:DS→DS}(h:∀ st,P st→Q (f st)):∀ {t:DT},t.All P→(t.map f).All Q
 |.leaf _ _,a=>h _ a
 |.node _ _ _,a=>⟨DT.map_all h a.1,DT.map_all h a.2⟩
 |.chk _ t,a=>DT.map_all h (t:=t) a
 |.bad,_=>trivial
theorem DT.unexit_ok(i:Nat):∀ (t:DT),(t.unexit i).ok=t.ok
 | .leaf e st=>by
   cases e<;>first|rfl|skip
   simp only[DT.unexit];split<;>rfl
 |.node c a b=>by simp only[DT.unexit,DT.ok,DT.unexit_ok i a,DT.unexit_ok i b]
 |.chk _ t=>by simp only[DT.unexit,DT.ok,DT.unexit_ok i t]
 |.bad=>rfl
def AExit.un(i:Nat):AExit→AExit
 |.exit j=>if j=i then .normal else .exit j
 |e=>e
theorem DT.unexit_lf(i:Nat):∀ (t:DT),(t.unexit i).lf=t.lf.map fun x=>(x.1.un i,x.2)
 | .leaf e st=>by
   cases e<;>first|rfl|skip
   rename_i j
   simp only[DT.unexit,DT.lf,Bw,AExit.un]
   by_cases h:j=i
   · rw[Ab (by simpa using h),Ab h];rfl
   · rw[Ad (by simpa using h),Ad h];rfl
 | .node c a b=>by
   cases c
   · exact DT.unexit_lf i b
   · exact DT.unexit_lf i a
 |.chk _ t=>DT.unexit_lf i t
 |.bad=>rfl
theorem DT.unexit_all{P:DS→Prop}(i:Nat):∀ {t:DT},t.All P→(t.unexit i).All P
 | .leaf e st,a=>by
   cases e<;>first|exact a|skip
   simp only[DT.unexit];split<;>exact a
 |.node _ _ _,a=>⟨DT.unexit_all i a.1,DT.unexit_all i a.2⟩
 |.chk _ t,a=>DT.unexit_all i (t:=t) a
 |.bad,_=>trivial
theorem DT.chk_ok(g:PX)(t:DT):(DT.chk' g t).ok.den↔g.den∧t.ok.den:=by
 cases g<;>simp only[DT.chk',DT.ok,PX.land_den,PX.den,I6]
theorem DT.chk_lf(g:PX)(t:DT):(DT.chk' g t).lf=t.lf:=by cases g<;>rfl
theorem DT.chk_all{P:DS→Prop}(g:PX){t:DT}(h:t.All P):(DT.chk' g t).All P:=by cases g<;>exact h
theorem DT.bind_s{f:DS→DT}{h:DS→DS}:∀ {t:DT} {e:AExit} {st:DS},(t.bind f h).ok.den→(t.bind f h).lf=some (e,st) →
 t.ok.den∧((∃ st0,t.lf=some (.normal,st0)∧(f st0).ok.den∧(f st0).lf=some (e,st))∨(e.isN=false∧∃ st0,t.lf=some (e,st0)∧st=h st0))
 | .leaf e0 st0,e,st,ho,hl=>by
   cases e0 with
   |normal=>exact⟨trivial,.inl ⟨st0,rfl,ho,hl⟩⟩
   | ret=>
     simp only[DT.bind,DT.lf,Ah,Aj] at hl
     obtain⟨rfl,rfl⟩:=hl
     exact⟨trivial,.inr ⟨rfl,st0,rfl,rfl⟩⟩
   | exit i=>
     simp only[DT.bind,DT.lf,Ah,Aj] at hl
     obtain⟨rfl,rfl⟩:=hl
     exact⟨trivial,.inr ⟨rfl,st0,rfl,rfl⟩⟩
 | .node c a b,e,st,ho,hl=>by
   have ho:=(PX.if_den c _ _).mp ho
   cases c with
   | true=>
     obtain⟨h1,h2⟩:=DT.bind_s (t:=a) (ho.1 rfl) hl
     exact⟨(PX.if_den _ _ _).mpr ⟨fun _=>h1,fun h=>by cases h⟩,h2⟩
   | false=>
     obtain⟨h1,h2⟩:=DT.bind_s (t:=b) (ho.2 rfl) hl
     exact⟨(PX.if_den _ _ _).mpr ⟨fun h=>(by cases h),fun _=>h1⟩,h2⟩
 | .chk g t,e,st,ho,hl=>by
   have ho:=(PX.land_den g _).mp ho
   obtain⟨h1,h2⟩:=DT.bind_s (t:=t) ho.2 hl
   exact⟨(PX.land_den _ _).mpr ⟨ho.1,h1⟩,h2⟩
 |.bad,e,st,ho,hl=>ho.elim
theorem DT.bind_all{P Q:DS→Prop}{f:DS→DT}{h:DS→DS}(hf:∀ st,P st→(f st).All Q)(hh:∀ st,P st→Q (h st)):∀ {t:DT},t.All P→(t.bind f h).All Q
 |.leaf e st,a=>by cases e<;>first|exact hf _ a|exact hh _ a
 |.node _ _ _,a=>⟨DT.bind_all hf hh a.1,DT.bind_all hf hh a.2⟩
 |.chk _ t,a=>DT.bind_all hf hh (t:=t) a
 |.bad,_=>trivial
theorem DT.then_s{b:DS}{f:DS→DT}{h:DS→DS}{t:DT}{e:AExit}{st:DS}(hb:t.All (ChgS b))(ho:(t.then f h).ok.den)(hl:(t.then f h).lf=some (e,st)) :
 t.ok.den∧((∃ st0 m,t.lf=some (.normal,st0)∧(∀ s,ES st0 s→ES m s)∧ChgS b m∧(f m).ok.den∧(f m).lf=some (e,st))∨(e.isN=false∧∃ st0,t.lf=some (e,st0)∧st=h st0)):=by
 have viaBind:(t.bind f h).ok.den→(t.bind f h).lf=some (e,st)→t.ok.den∧((∃ st0 m,t.lf=some (.normal,st0)∧(∀ s,ES st0 s→ES m s)∧ChgS b m∧(f m).ok.den∧(f m).lf=some (e,st))∨(e.isN=false∧∃ st0,t.lf=some (e,st0)∧st=h st0)):=fun ho hl=>by
  obtain⟨h1,h2⟩:=DT.bind_s ho hl;refine⟨h1,h2.imp ?_ id⟩;rintro⟨st0,h3,h4,h5⟩;exact⟨st0,st0,h3,fun _ h=>h,hb.lf h3,h4,h5⟩
 unfold DT.then at ho hl
 split at ho
 · rename_i hn
   rw[Ab hn] at hl;exact viaBind ho hl
 · rename_i hn
   rw[Ad hn] at hl
   cases hm:t.norm with
   |none=>rw[hm] at ho hl;exact viaBind ho hl
   |fail=>rw[hm] at ho hl;exact viaBind ho hl
   | some m=>
     rw[hm] at ho hl;simp only[DT.chk_ok,DT.chk_lf] at ho hl;obtain⟨ho1,ho2⟩:=ho;refine⟨ho1,?_⟩;obtain⟨e0,st0,h0⟩:=DT.ok_lf ho1
     have nrm:e0.isN=true→(f m).ok.den→(f m).lf=some (e,st)→((∃ st0 m,t.lf=some (.normal,st0)∧(∀ s,ES st0 s→ES m s)∧ChgS b m∧(f m).ok.den∧(f m).lf=some (e,st))∨(e.isN=false∧∃ st0,t.lf=some (e,st0)∧st=h st0)):=fun he h1 h2=>by
      have he:e0= .normal:=by cases e0<;>first|rfl|cases he
      subst he;exact .inl ⟨st0,m,h0,fun s hs=>DT.norm_s hb hm h0 hs,DT.norm_chg hb hm,h1,h2⟩
     cases hc:t.cont with
     |none=>rw[hc] at ho2;exact ho2.elim
     | some c=>
       have hcs:=DT.cont_s hc h0
       cases c with
       | lit c=>
         cases c with
         |false=>rw[hc] at ho2;exact ho2.elim
         | true=>
           rw[hc] at ho2 hl;exact nrm hcs.symm ho2 hl
       | dyn c=>
         rw[hc] at ho2 hl;simp only[BX.b] at hcs;subst hcs;have ho2:=(PX.if_den _ _ _).mp ho2
         cases he:e0.isN with
         | true=>
           rw[he] at hl;exact nrm he (ho2.1 he) hl
         | false=>
           rw[he] at hl;simp only[DT.lf,DT.map_lf,DT.drop_lf h0 he,Bw,Ah,Aj] at hl;obtain⟨rfl,rfl⟩:=hl;exact .inr ⟨he,st0,h0,rfl⟩
theorem DT.then_all{b:DS}{Q:DS→Prop}{f:DS→DT}{h:DS→DS}{t:DT}(hb:t.All (ChgS b))(hf:∀ st,ChgS b st→(f st).All Q)(hh:∀ st,ChgS b st→Q (h st)):(t.then f h).All Q:=by
 unfold DT.then;split
 · exact DT.bind_all hf hh hb
 · cases hm:t.norm with
   |none=>exact DT.bind_all hf hh hb
   |fail=>exact DT.bind_all hf hh hb
   | some m=>
     have h1:=hf m (DT.norm_chg hb hm);refine DT.chk_all _ ?_
     cases hc:t.cont with
     |none=>trivial
     | some c=>
       cases c with
       |lit c=>cases c<;>first|trivial|exact h1
       |dyn c=>exact⟨h1,DT.map_all hh (DT.drop_all hb)⟩
theorem eV(v:DV):v.enc.isAgg=v.isAgg:=by cases v<;>rfl
theorem gj{v:DV}(h:v.flatc=true):v.enc.flatc=true∧∀ q es,v.enc≠.sl q es:=by cases v<;>first|(cases h;done)|exact⟨rfl,fun _ _ h=>(by cases h)⟩
theorem fi{s:PS}{hd:Hd}{c:Nat}{v:PV}{os as:List PV}(h:v.flatc=true)(hr:GA s hd (c+1) os as):GA s hd c (v::os) (v::as):=by
 cases v<;>first|exact⟨rfl,h,hr⟩|(cases h;done)
theorem KW{d:DS}{s:PS}(hs:ES d s){hd:Hd}:∀ (vs:List DV) (c:Nat) {g:PX} {os:List DV},EM d hd c vs=some (g,os)→g.den→GA s hd c (DV.encL os) (DV.encL vs)
 | [],c,g,os,h,_=>by
   simp only[EM,Ah,Aj] at h;rw[← h.2];trivial
 | v :: vs,c,g,os,h,hg=>by
   have flat:v.flatc=true→(match EM d hd (c+1) vs with|some (g,os)=>some (g,v::os)|none=>none)=some (g,os)→GA s hd c (DV.encL os) (DV.encL (v::vs)):=by
    intro hf h
    cases h1:EM d hd (c+1) vs with
    |none=>rw[h1] at h;cases h
    | some r=>
      obtain⟨g1,os1⟩:=r;rw[h1] at h;simp only[Ah,Aj] at h;obtain⟨rfl,rfl⟩:=h;exact fi (gj hf).1 (KW hs vs (c+1) h1 hg)
   have flat':(if v.flatc=true then (match EM d hd (c+1) vs with|some (g,os)=>some (g,v::os)|none=>none) else none)=some (g,os)→GA s hd c (DV.encL os) (DV.encL (v::vs)):=by
    intro h;split at h
    · exact flat (by assumption) h
    · cases h
   cases v with
   | sl q r l=>
     simp only[EM] at h;split at h
     · rename_i hq
       have hq:q= .bor hd [c] true:=by simpa [Di] using hq
       subst hq
       cases h1:EM d hd (c+1) vs with
       |none=>rw[h1] at h;split at h<;>simp_all
       | some r=>
         obtain⟨g1,os1⟩:=r;rw[h1] at h
         have hk:Bt d hd [c]≠.any:=by intro e;rw[e] at h;cases h
         have ek:=Fy hs hd [c] hk;split at h
         · rename_i r' l' g2 os2 e1 e2;simp only[Ah,Aj] at h e2;obtain⟨rfl,rfl⟩:=h;obtain⟨rfl,rfl⟩:=e2;have hg:=(PX.land_den _ _).mp hg;have hl:l.length=l'.length:=hg.1;refine⟨rfl,by rw[ek,e1];rfl,⟨_,rfl,?_⟩,KW hs vs (c+1) h1 hg.2⟩;rw[Bg,Bg];exact hl
         · rename_i g2 os2 e1 e2;simp only[Ah,Aj] at h e2;obtain⟨rfl,rfl⟩:=h;obtain⟨rfl,rfl⟩:=e2;have hg:=(PX.land_den _ _).mp hg;have hl:l.length=0:=hg.1;refine⟨rfl,by rw[ek,e1];rfl,⟨_,rfl,?_⟩,KW hs vs (c+1) h1 hg.2⟩;rw[Bg];exact hl
         · cases h
     · cases h
   | nil q=>
     simp only[EM] at h;split at h
     · rename_i hq
       have hq:q= .bor hd [c] true:=by simpa [Di] using hq
       subst hq
       cases h1:EM d hd (c+1) vs with
       |none=>rw[h1] at h;split at h<;>simp_all
       | some r=>
         obtain⟨g1,os1⟩:=r;rw[h1] at h
         have hk:Bt d hd [c]≠.any:=by intro e;rw[e] at h;cases h
         have ek:=Fy hs hd [c] hk;split at h
         · rename_i r' l' g2 os2 e1 e2;simp only[Ah,Aj] at h e2;obtain⟨rfl,rfl⟩:=h;obtain⟨rfl,rfl⟩:=e2;have hg:=(PX.land_den _ _).mp hg;have hl:l'.length=0:=hg.1;refine⟨rfl,by rw[ek,e1];rfl,⟨_,rfl,?_⟩,KW hs vs (c+1) h1 hg.2⟩;rw[Bg];exact hl.symm
         · rename_i g2 os2 e1 e2;simp only[Ah,Aj] at h e2;obtain⟨rfl,rfl⟩:=h;obtain⟨rfl,rfl⟩:=e2;exact⟨rfl,by rw[ek,e1];rfl,⟨_,rfl,rfl⟩,KW hs vs (c+1) h1 hg⟩
         · cases h
     · cases h
   |_=>exact flat' h
def DV.flag:List DV→Prop
 |[]=>True
 |.sl q _ _::r=>q= .own∧DV.flag r
 |_::r=>DV.flag r
theorem Sz:∀ (r:RT) (x:r.D),DV.flag (r.dv .own x)
 |.one t,x=>by cases t<;>first|trivial|exact⟨rfl,trivial⟩
 |.cons t r,x=>by cases t<;>first|exact⟨rfl,Sz r x.2⟩|exact Sz r x.2
theorem Tp{hd:Hd}{D':DS}{K:PS→Prop}(hK:∀ s',ES D' s'→K s'):∀ (vs:List DV) (c:Nat) {d:DS} {s:PS},ES d s→FW hd c vs d=some D'→DV.flag vs→JH hd c (DV.encL vs) K s
 | [],c,d,s,hs,h,_=>by
   simp only[FW,Ah] at h;subst h;exact hK _ hs
 | v :: vs,c,d,s,hs,h,hf=>by
   cases v with
   | sl q r l=>
     simp only[FW] at h
     have hk:Bt d hd [c]≠.any:=by intro e;rw[e] at h;cases h
     have ek:=Fy hs hd [c] hk
     have hn:FW hd (c+1) vs (EG d (.sl q r l) hd [c])=some D'∧∃ es0,BS s hd [c]= .sl .own es0:=by
      split at h
      · rename_i e1;exact⟨h,_,by rw[ek,e1];rfl⟩
      · rename_i e1;exact⟨h,_,by rw[ek,e1];rfl⟩
      · cases h
     obtain⟨rfl,hf⟩:=hf;exact⟨hn.2,Tp hK vs (c+1) (IL hs hd [c] (.sl .own r l) hk) hn.1 hf⟩
   |nil q=>cases h
   |_=>exact Tp hK vs (c+1) hs h hf
theorem Sy:∀ (r:RT) (x y:r.D),It (RT.enc r x) (RT.enc r y)
 |.one t,x,y=>by cases t<;>first|exact⟨⟨_,rfl⟩,trivial⟩|exact⟨fun _ _ h=>(by cases h),trivial⟩
 |.cons t r,x,y=>by cases t<;>first|exact⟨⟨_,rfl⟩,Sy r x.2 y.2⟩|exact⟨fun _ _ h=>(by cases h),Sy r x.2 y.2⟩
theorem W5:∀ {vs:List DV} {c:Nat} {hd:Hd} {b:Nat},Qr c vs=some (hd,b)→hd.sb=true
 |[],_,_,_,h=>by cases h
 | v :: vs,c,hd,b,h=>by
   unfold Qr at h
   split at h
   · cases h
   · split at h
     · rename_i hc
       simp only[Ai] at hc
       simp only[Ah,Aj] at h
       rw[← h.1];exact hc.2
     · cases h
   · split at h
     · rename_i hc
       simp only[Ai] at hc
       simp only[Ah,Aj] at h
       rw[← h.1];exact hc.2
     · cases h
   · rename_i h1;cases h1;exact W5 h
theorem jE {d d1:DS}{s:PS}(hs:ES d s){M:DMk}{x y:Opnd}{g:PX}{v:DV}(h:Js M x y d=some (g,v,d1))(hg:g.den){dst:Option Nat}{k:PS→Prop}(hk:∀ s',ES d1 s'→k (s'.put dst v.enc)):TT M.P x y dst k s:=by
 unfold Js at h;split at h
 · rename_i m hm;split at h
   · rename_i hc;simp only[Ai] at hc;split at h
     · rename_i hd b hh;split at h
       · rename_i g1 os ho;split at h
         · rename_i z hz;split at h
           · rename_i st' hS;simp only[Ah,Aj] at h;obtain⟨rfl,rfl,rfl⟩:=h;have hg:=(PX.land_den _ _).mp hg
             have hy:y.pev s.sl= .fl (.int .i64 m):=by
              have:=y.dev_ev hs;rw[hm] at this;exact this.of (by simp)
             have hx:x.pev s.sl=(x.dev d.sl).enc:=(x.dev_ev hs).of (by intro e;rw[e] at hc;cases hc.2);refine⟨m,hd,b,M.r.enc z,hy,?_,W5 hh,?_,?_,⟨z,rfl,hg.2,Sy _ _ _,?_⟩⟩
             · rw[hx,eV];exact eq_of_beq hc.1
             · rw[hx];exact Wu _ hc.2
             · rw[hx,G0,← Ld hz];exact KW hs _ b ho hg.1
             · rw[← P8];have hP:M.P.vd=M.vd:=rfl;refine Tp (fun s' hs'=>?_) _ b hs hS (Sz _ _);have h:=hk s' hs';rw[hP]
               cases hvd:M.vd with
               |true=>rw[hvd] at h;exact h
               |false=>rw[hvd] at h;exact h
           · cases h
         · cases h
       · cases h
     · cases h
   · cases h
 · cases h
theorem Pm{hd:Hd}{D':DS}:∀ (vs:List DV) (c:Nat) {d:DS},FW hd c vs d=some D'→ChgS d D'
 | [],c,d,h=>by
   simp only[FW,Ah] at h
   subst h;exact ChgS.refl _
 | v :: vs,c,d,h=>by
   cases v with
   | sl q r l=>
     simp only[FW] at h
     split at h
     · exact(ChgS.setK _ _ _ _).trans (Pm vs _ h)
     · exact(ChgS.setK _ _ _ _).trans (Pm vs _ h)
     · cases h
   |nil q=>cases h
   |_=>exact Pm vs _ h
theorem fv{d d1:DS}{M:DMk}{x y:Opnd}{g:PX}{v:DV}(h:Js M x y d=some (g,v,d1)):ChgS d d1:=by
 unfold Js at h
 repeat' split at h
 all_goals first|(cases h;done)|skip
 all_goals
  simp only[Ah,Aj] at h
  obtain⟨_,_,rfl⟩:=h
  exact Pm _ _ (by assumption)
def Ik(p:Bj)(D:ER):Prop:=∀ (args:List DV) (g:PX) (v:DV) (Q:PV→List (List PV)→Prop),D args=some (g,v)→g.den→(∀ H,Q v.enc H)→p (DV.encL args) [] Q
def Es(p:Bj)(D:Cs):Prop:=∀ (args:List DV) (b:List (List DV)) (g:PX) (v:DV) (H:List (List DV)) (Q:PV→List (List PV)→Prop),D args b=some (g,v,H)→g.den→Q v.enc (EH (Gp b H))→p (DV.encL args) (EH b) Q
inductive ObD where
 |nv (p:Bj) (D:ER)
 |wp (p:Bj) (D:Cs)
def ObD.sound:ObD→Prop
 |.nv p D=>Ik p D
 |.wp p D=>Es p D
def DOp.obs:DOp→List ObD
 |.a _ _ _=>[]
 |.aw _ _ _ _=>[]
 |.call _ _ p D _=>[.nv p D]
 |.mark _ _ _ _=>[]
 |.callp _ _ p D _=>[.wp p D]
 |.callv _ _ p D _ _ _=>[.wp p D]
def PE:List DOper→List ObD
 |[]=>[]
 |o::r=>o.op.obs++PE r
def DCode.obs:DCode→List ObD
 |.skip=>[]
 |.region ops=>PE ops
 |.regionU ops=>PE ops
 |.seq _ a b=>a.obs++b.obs
 |.cond _ a b=>a.obs++b.obs
 |.block _ a=>a.obs
 |.loop _ _ a=>a.obs
 |.exit _=>[]
 |.ret=>[]
def AllD:List ObD→Prop
 |[]=>True
 |o::r=>o.sound∧AllD r
theorem AllD.app:∀ {a b:List ObD},AllD (a++b)→AllD a∧AllD b
 |[],_,h=>⟨trivial,h⟩
 |_::_,_,⟨h1,h2⟩=>⟨⟨h1,(AllD.app h2).1⟩,(AllD.app h2).2⟩
theorem P5{d:DS}{s:PS}(hs:ES d s):∀ (args:List Opnd),FE (Dt d.sl args)=true→args.map (·.pev s.sl)=DV.encL (Dt d.sl args)
 |[],_=>rfl
 | x::r,h=>by
   simp only[Dt,FE,Ai] at h
   simp only[BE,Dt,DV.encL,P5 hs r h.2]
   rw[(x.dev_ev hs).of (by intro e;rw[e] at h;cases h.1)]
theorem Kj:∀ (l:List PV),l.any PV.hasPtr=PV.hasPtrL l
 |[]=>rfl
 |v::r=>by simp only[List.any_cons,PV.hasPtrL,Kj r]
theorem Qh:∀ (l:List PV),l.map PV.fz=PV.fzL l
 |[]=>rfl
 |v::r=>by simp only[BE,PV.fzL,Qh r]
theorem Sm:∀ (l:List PV),(l.all fun v=>!v.hold)=!PV.holdL l
 |[]=>rfl
 |v::r=>by simp only[Ea,PV.holdL,Sm r,Bool.not_or]
mutual
theorem WO:∀ (v:DV),v.deep=true→v.enc.deep=true
 |.undef,_|.bool _,_|.int _ _,_|.str _,_|.ifc _,_|.ptr _ _,_=>rfl
 |.nil q,h=>by cases q<;>first|rfl|cases h
 |.sl q r l,h=>by cases q<;>first|(cases h;done)|exact R8 r l
 |.agg cs,h=>RD cs h
 |.tup cs,h=>RD cs h
theorem RD:∀ (l:List DV),DV.deepL l=true→PV.deepL (DV.encL l)=true
 |[],_=>rfl
 | v::r,h=>by
   simp only[DV.deepL,Ai] at h
   simp only[DV.encL,PV.deepL,WO v h.1,RD r h.2,B9]
end
theorem SQ(v:DV):v.enc.retc=v.retc:=by
 cases v<;>first|rfl|skip
 case nil q=>cases q<;>rfl
 case sl q r l=>cases q<;>rfl
theorem XI:∀ (l:List DV),Du (DV.encL l)=Gr l
 |[]=>rfl
 |v::r=>by simp only[DV.encL,Du,Gr,SQ v,XI r]
theorem iG(v:DV):v.enc.retok=v.retok:=by
 cases v<;>first|rfl|skip
 case nil q=>exact SQ (.nil q)
 case sl q r l=>exact SQ (.sl q r l)
 case agg cs=>exact XI cs
theorem iy{d:DS}{s:PS}(x:Opnd)(h:ES d s)(hk:∀ n,x= .t n→AR d.sl n≠.any):ES (Jj x d).2 (fzOut x s).2:=by
 cases x with
 |c v=>exact h
 | t n=>
   simp only[Jj,QF,fzOut,Ug];have hg:=(h.sl.get n).of (hk n rfl);rw[hg,G6,iG];by_cases ho:(AR d.sl n).own=true
   · simp only[ho,Az];by_cases hr:(AR d.sl n).retok=true
     · rw[Ab hr,Ab hr,← Yk];exact⟨(h.sl.put n (.inr rfl)).clr _,h.bx,h.hp⟩
     · rw[Ad hr,Ad hr];exact h
   · simp only[ho];exact h
theorem Vh(v:DV):∀ (l:List DC) (k n:Nat),AR l n= .any→k≠n→AR (Ci l k v) n= .any
 |[],_,_,_,_=>rfl
 |_::_,0,0,_,hn=>absurd rfl hn
 |_::_,0,_+1,h,_=>h
 |_::_,_+1,0,h,_=>h
 |_::r,k+1,n+1,h,hn=>Vh v r k n h (by simpa using hn)
theorem Vf(hd:Hd):∀ (l:List DC) (n:Nat),AR l n= .any→AR (Cj hd l) n= .any
 |[],_,_=>rfl
 | c::_,0,h=>by
   have h:c.v= .any:=h
   simp only[Cj,h,DV.bor,As,AB,AR]
 |_::r,n+1,h=>Vf hd r n h
theorem dz(x:Opnd)(d:DS)(n:Nat)(h:AR d.sl n= .any):AR (Jj x d).2.sl n= .any:=by
 cases x with
 |c v=>exact h
 | t k=>
   simp only[Jj,QF];split
   · rename_i ho;split
     · refine Vf _ _ _ (Vh _ _ _ _ h ?_);rintro rfl;rw[h] at ho;cases ho
     · exact h
   · exact h
theorem Vl:∀ (args:List Opnd) (d:DS) (n:Nat),AR d.sl n= .any→AR (Da args d).sl n= .any
 |[],_,_,h=>h
 |x::r,d,n,h=>Vl r _ n (dz x d n h)
theorem Pe:∀ (args:List Opnd) {d:DS} {s:PS},ES d s→(∀ x∈args,x.dev (Da args d).sl≠.any)→ES (Da args d) (fzArgs args s)
 |[],_,_,h,_=>h
 | x::r,d,s,h,hk=>by
   refine Pe r (iy x h fun n hx hn=>?_) fun y hy=>hk y (List.mem_cons_of_mem _ hy)
   subst hx
   exact hk (.t n) (Jk ..) (Vl (.t n::r) d n hn)
theorem OR{sl:List DC}:∀ {args:List Opnd},FE (Dt sl args)=true→∀ x∈args,x.dev sl≠.any
 |[],_,_,hx=>by cases hx
 | a::r,h,x,hx=>by
   simp only[Dt,FE,Ai] at h
   rcases Bx.mp hx with rfl|hx
   · intro e;rw[e] at h;cases h.1
   · exact OR h.2 x hx
theorem DS.fzArgs_chg:∀ (args:List Opnd) (d:DS),ChgS d (Da args d)
 |[],d=>ChgS.refl d
 |x::r,d=>(ChgS.fzOut x d).trans (DS.fzArgs_chg r _)
section
variable {E:AExit} {D':DS}
def Nz(E:AExit)(D':DS)(K:DS→DT)(k:PS→Prop):Prop:=∀ d s,ES d s→(K d).ok.den→(K d).lf=some (E,D')→k s
theorem js{D:ER}{p:Bj}(hp:Ik p D){args:List Opnd}{d d1:DS}{s:PS}{g:PX}{v:DV}{dst:Option Nat}{k:PS→Prop}(hs:ES d s)(h:Jx D args d=some (g,v,d1))(hg:g.den)(hk:∀ s',ES (d1.put dst v) s'→k s'):TD p args dst k s:=by
 unfold Jx at h;simp only at h;split at h
 · rename_i hc;simp only[Ai,Cq] at hc;obtain⟨h1,h2⟩:=hc;split at h
   · rename_i g1 v1 hD;split at h
     · rename_i hr;simp only[Ai,Cq,B0] at hr;obtain⟨⟨hok,hnp⟩,hdp⟩:=hr;simp only[Ah,Aj] at h;obtain⟨rfl,rfl,rfl⟩:=h;have e:=P5 hs args h1;refine⟨by rw[e,Kj,HK,h2],by rw[e];exact OT _ h1,?_⟩;rw[e,Kj,HK,h2];simp only[As,AB];rw[Qh,← KJ]
       refine hp _ _ _ _ hD hg fun H=>⟨?_,?_⟩
       · rw[OU,hnp,Sm,L3];rcases hdp with h|h
         · simp[WO _ h]
         · simp[h]
       · rw[OU,hnp];simp only[As,AB];exact hk _ (hs.put dst v1)
     · cases h
   · cases h
 · cases h
theorem W4{D:ER}{args:List Opnd}{d d1:DS}{g:PX}{v:DV}(h:Jx D args d=some (g,v,d1)):d1=d∧FE (Dt d.sl args)=true:=by
 unfold Jx at h;simp only at h;split at h
 · rename_i hc;simp only[Ai] at hc;split at h
   · split at h
     · simp only[Ah,Aj] at h;exact⟨h.2.2.symm,hc.1⟩
     · cases h
   · cases h
 · cases h
theorem Uc(q:Ql):∀ es,(PV.sl q es).isH=q.isH'∧∀ j o,(PV.ep q es j o).isH=q.isH':=by
 intro es
 cases q with
 |bor hd p t=>cases hd<;>exact⟨rfl,fun _ _=>rfl⟩
 |pre hd p=>cases hd<;>exact⟨rfl,fun _ _=>rfl⟩
 |_=>exact⟨rfl,fun _ _=>rfl⟩
mutual
theorem Ya:∀ (v:DV),v.enc.isH=v.isH
 |.nil q=>(Uc q []).1
 |.sl q r l=>(Uc q _).1
 |.ep q r l j o=>(Uc q _).2 j o
 |.agg cs=>Sc cs
 |.tup vs=>Sc vs
 |.any|.undef|.bool _|.int _ _|.str _|.ifc _|.box _ _|.ptr _ _=>rfl
theorem Sc:∀ (l:List DV),PV.isHL (DV.encL l)=DV.isHL l
 |[]=>rfl
 |v::r=>by simp only[DV.encL,PV.isHL,DV.isHL,Ya v,Sc r]
end
theorem EL.clrH:∀ {a:List DC} {b:List PV},EL a b→EL (Na a) (Go.Ag.clrH b)
 |[],[],_=>trivial
 | c :: a,p::b,h=>by
   refine⟨?_,EL.clrH h.2⟩
   by_cases hc:c.v.isH=true
   · rw[Ab hc];exact .inl rfl
   · rw[Ad hc]
     rcases h.1 with h1|h1
     · exact .inl h1
     · rw[h1,Ya,Ad hc];exact .inr rfl
theorem EL.all:∀ {a:List DC} {b:List PV},EL a b→DV.okL (A4 a)=true→b=DV.encL (A4 a)
 |[],[],_,_=>rfl
 | c::a,p::b,h,hk=>by
   simp only[A4,DV.okL,Ai] at hk
   rcases h.1 with h1|h1
   · rw[h1] at hk;cases hk.1
   · simp only[A4,DV.encL];rw[h1,EL.all h.2 hk.2]
theorem EB.all:∀ {a:List (List DC)} {b:List (List PV)},EB a b→QG (Fj a)=true→b=EH (Fj a)
 |[],[],_,_=>rfl
 | c::a,p::b,h,hk=>by
   simp only[Fj,QG,Ai] at hk
   have hl:0<c.length:=by rw[← Me];exact BR hk.1.1
   simp only[Fj,EH];rw[(h.1.to hl).all hk.1.2,EB.all h.2 hk.2]
theorem EL.mix:∀ (a:List DC) (vs:List DV),EL (JG a vs) (DV.encL (DZ (A4 a) vs))
 |[],vs=>by simp only[JG,A4,DZ];exact EL.news vs
 | c :: a,[]=>by
   have:∀ (a:List DC),EL a (DV.encL (A4 a)):=by
    intro a
    induction a with
    |nil=>exact trivial
    |cons x r ih=>exact⟨.inr rfl,ih⟩
   exact this (c::a)
 | c::a,v::vs=>by
   simp only[JG,A4,DZ];refine⟨?_,EL.mix a vs⟩;by_cases h:v.isAny=true
   · rw[Ab h,Ab h];exact .inr rfl
   · rw[Ad h,Ad h];exact .inr rfl
theorem EB.newsB:∀ (vs:List (List DV)),EB (Go.Ag.newsB vs) (EH vs)
 |[]=>trivial
 |v::r=>⟨.inr (EL.news v),EB.newsB r⟩
theorem EB.mix:∀ (a:List (List DC)) (vs:List (List DV)),EB (JA a vs) (EH (Gp (Fj a) vs))
 |[],vs=>by simp only[JA,Fj,Gp];exact EB.newsB vs
 | c :: a,[]=>by
   have h0:∀ (a:List DC),JG a []=a:=by intro a;cases a<;>rfl
   have h1:∀ (a:List DC),DZ (A4 a) []=A4 a:=by intro a;cases a<;>rfl
   have:∀ (a:List (List DC)),EB a (EH (Fj a)):=by
    intro a
    induction a with
    |nil=>exact trivial
    | cons x r ih=>
      refine⟨.inr ?_,ih⟩;have:=EL.mix x [];rw[h0,h1] at this;exact this
   exact this (c::a)
 | c::a,v::vs=>by
   simp only[JA,Fj,Gp];exact⟨.inr (EL.mix c v),EB.mix a vs⟩
theorem RI:∀ (a:List (List DV)),(EH a).length=a.length
 |[]=>rfl
 |_::r=>by simp only[EH,AX,RI r]
theorem Wp:∀ (a vs:List (List DV)),a.length≤(Gp a vs).length
 |[],_=>Ig _
 |_::_,[]=>Ba _
 |_::a,_::vs=>by simp only[Gp,AX];exact Nat.succ_le_succ (Wp a vs)
theorem Xf{D:Cs}{p:Bj}(hp:Es p D){args:List Opnd}{d d1:DS}{s:PS}{g:PX}{v:DV}{dst:Option Nat}{k:PS→Prop}(hs:ES d s)(h:Hl D args d=some (g,v,d1))(hg:g.den)(hk:∀ s',ES (d1.put dst v) s'→k s'):MY p args dst k s:=by
 unfold Hl at h;simp only at h;split at h
 · rename_i hc;simp only[Ai,Cq] at hc;obtain⟨⟨h1,h2⟩,h3⟩:=hc;have e:=P5 hs args h1;have eh:=hs.hp.all h3
   have hun:((DV.encL (Dt d.sl args)).all fun v=>!v.hold)=true:=by rw[Sm,L3,h2];rfl
   split at h
   · rename_i hpt;split at h
     · rename_i g1 v1 H hD;split at h
       · rename_i hr;simp only[Ai,Cq] at hr;simp only[Ah,Aj] at h;obtain⟨rfl,rfl,rfl⟩:=h;refine⟨by rw[e];exact OT _ h1,?_⟩;rw[e,Kj,HK,hpt];simp only[Az];refine⟨hun,?_⟩;rw[Qh,← KJ,eh];have hE:ES { d with sl:=Na d.sl,hp:=JA d.hp H } { s with sl:=Go.Ag.clrH s.sl,hp:=EH (Gp (Fj d.hp) H) }:=⟨hs.sl.clrH,hs.bx,EB.mix d.hp H⟩;refine hp _ _ _ _ _ _ hD hg ⟨?_,by rw[OU];exact hr.2,hk _ (hE.put dst v1)⟩;rw[RI,RI];exact Wp _ _
       · cases h
     · cases h
   · rename_i hpt;split at h
     · rename_i hl;have hl:d.hp=[]:=Ex (by simpa using hl);split at h
       · rename_i g1 v1 H hD;split at h
         · rename_i hr;simp only[Ah,Aj] at h;obtain⟨rfl,rfl,rfl⟩:=h
           have hv:v1= .ptr 0 0:=by
            unfold DV.isP0 at hr;split at hr
            · rfl
            · cases hr
           subst hv
           have hsl:s.hp=[]:=by rw[eh,hl];rfl
           refine⟨by rw[e];exact OT _ h1,?_⟩;rw[e,Kj,HK];rw[Ad (by simpa using hpt)];rw[Qh,← KJ]
           have:=hp _ [] _ _ _ (fun r H=>(((!r.hasPtr&&r.deep)||(DV.encL (Dt d.sl args)).all fun v=>!v.hold)=true)∧k (PS.put { s with hp:=if r.hasPtr then s.hp++H else s.hp } dst (if r.hasPtr then r.shift s.hp.length else r))) hD hg ⟨by rw[hun];simp,by
            have hE:ES { d with hp:=newsB H } { s with hp:=EH H }:=⟨hs.sl,hs.bx,EB.newsB H⟩;have:=hk _ (hE.put dst (.ptr 0 0))
            simpa [hsl,DV.enc,PV.hasPtr,PV.shift,Gp] using this⟩
           exact this
         · cases h
       · cases h
     · cases h
 · cases h
theorem Xa{i c:Nat}{D:Cs}{args:List Opnd}{d d1:DS}{g:PX}{v:DV}(h:MH i c D args d=some (g,v,d1)) :
 DV.hasPtrL (Dt d.sl args)=true∧(Bt d (.b i) [c]).ownS=true∧Hl D args d=some (g,v,d1):=by
 unfold MH at h
 by_cases hc:(DV.hasPtrL (Dt d.sl args)&&(Bt d (.b i) [c]).ownS)=true
 · rw[Ab hc] at h
   rw[Ai] at hc;exact⟨hc.1,hc.2,h⟩
 · rw[Ad hc] at h;cases h
theorem OX{D:Cs}{args:List Opnd}{d d1:DS}{g:PX}{v:DV}(h:Hl D args d=some (g,v,d1)):ChgS d d1∧FE (Dt d.sl args)=true:=by
 have cH:∀ (l:List DC),Chg l (Na l):=by
  intro l
  induction l with
  |nil=>trivial
  | cons c r ih=>
    refine⟨?_,ih⟩;by_cases hc:c.v.isH=true
    · rw[Ab hc];exact .inl rfl
    · rw[Ad hc];exact .inr rfl
 have cN:∀ (x:List DC) (vs:List DV),Chg x (news vs):=by
  intro x vs
  induction vs generalizing x with
  |nil=>cases x<;>trivial
  | cons v r ih=>cases x with
    |nil=>exact⟨rfl,ih []⟩
    |cons c x=>exact⟨.inl rfl,ih x⟩
 have cM:∀ (a:List DC) (vs:List DV),Chg a (JG a vs):=by
  intro a
  induction a with
  |nil=>intro vs;exact cN [] vs
  | cons c r ih=>
    intro vs
    cases vs with
    |nil=>exact Chg.refl _
    | cons v vs=>
      refine⟨?_,ih vs⟩;by_cases h:v.isAny=true
      · rw[Ab h];exact .inr rfl
      · rw[Ad h];exact .inl rfl
 have cNB:∀ (x:List (List DC)) (vs:List (List DV)),ChgB x (newsB vs):=by
  intro x vs
  induction vs generalizing x with
  |nil=>cases x<;>trivial
  | cons v r ih=>cases x with
    |nil=>exact⟨cN _ _,ih []⟩
    |cons c x=>exact⟨cN _ _,ih x⟩
 have cMB:∀ (a:List (List DC)) (vs:List (List DV)),ChgB a (JA a vs):=by
  intro a
  induction a with
  |nil=>intro vs;exact cNB [] vs
  | cons c r ih=>
    intro vs
    cases vs with
    |nil=>exact ChgB.refl _
    |cons v vs=>exact⟨cM c v,ih vs⟩
 unfold Hl at h;simp only at h;split at h
 · rename_i hc;simp only[Ai] at hc;refine⟨?_,hc.1.1⟩;split at h
   · split at h
     · split at h
       · simp only[Ah,Aj] at h;obtain⟨_,_,rfl⟩:=h;exact⟨cH _,ChgB.refl _,cMB _ _⟩
       · cases h
     · cases h
   · split at h
     · split at h
       · split at h
         · simp only[Ah,Aj] at h;obtain⟨_,_,rfl⟩:=h;exact⟨Chg.refl _,ChgB.refl _,cNB _ _⟩
         · cases h
       · cases h
     · cases h
 · cases h
theorem XO{d:DS}{s:PS}(x:Opnd)(hs:ES d s)(hk:x.dev d.sl≠.any)(ho:(x.dev d.sl).own=false):mvOut x s=((x.dev d.sl).enc,s):=by
 cases x with
 |c v=>simp only[mvOut,Opnd.dev];rw[Pc v hk]
 | t n=>
   have:=(hs.sl.get n).of hk;simp only[mvOut,Dz,this,G6,Opnd.dev] at ho ⊢;rw[Ad (by simp[ho])]
theorem Qa{o:DOp}(ho:AllD o.obs){dst:Option Nat}{K:DS→DT}{k:PS→Prop}(hK:Nz E D' K k):Nz E D' (BW o dst K) (fun s=>Cb o.er dst k s):=by
 intro d s hs hok hl
 cases o with
 | call m f p D args=>
   simp only[BW] at hok hl;simp only[DOp.er,Cb]
   cases hc:Jx D args (if m=true then Da args d else d) with
   |none=>rw[hc] at hok;exact hok.elim
   | some r=>
     obtain⟨g,v,d1⟩:=r;rw[hc] at hok hl;simp only[DT.chk_ok,DT.chk_lf] at hok hl;obtain⟨e1,e2⟩:=W4 hc
     have hs':ES (if m=true then Da args d else d) (if m=true then fzArgs args s else s):=by
      cases m with
      |false=>exact hs
      |true=>exact Pe args hs (OR e2)
     exact js ho.1 hs' hc hok.1 fun s' hs'=>hK _ _ hs' hok.2 hl
 | aw ws m o ty=>
   simp only[BW] at hok hl;simp only[DOp.er,Cb]
   cases hst:Ja ws m o ty d with
   |none=>rw[hst] at hok;exact hok.elim
   | some r=>
     obtain⟨g,v,d1⟩:=r;rw[hst] at hok hl;simp only[DT.chk_ok,DT.chk_lf] at hok hl;obtain⟨s',v0,e1,e2,e3⟩:=cr hs hst hok.1;simp only[e1,e2];exact hK _ _ (e3.put dst v) hok.2 hl
 | mark f M x y=>
   simp only[BW] at hok hl;simp only[DOp.er,Cb]
   cases hst:Js M x y d with
   |none=>rw[hst] at hok;exact hok.elim
   | some r=>
     obtain⟨g,v,d1⟩:=r;rw[hst] at hok hl;simp only[DT.chk_ok,DT.chk_lf] at hok hl
     exact jE hs hst hok.1 fun s' hs'=>hK _ _ (hs'.put dst v) hok.2 hl
 | callp m f p D args=>
   simp only[BW] at hok hl;simp only[DOp.er,Cb]
   cases hc:Hl D args (if m=true then Da args d else d) with
   |none=>rw[hc] at hok;exact hok.elim
   | some r=>
     obtain⟨g,v,d1⟩:=r;rw[hc] at hok hl;simp only[DT.chk_ok,DT.chk_lf] at hok hl;obtain⟨e1,e2⟩:=OX hc
     have hs':ES (if m=true then Da args d else d) (if m=true then fzArgs args s else s):=by
      cases m with
      |false=>exact hs
      |true=>exact Pe args hs (OR e2)
     exact Xf ho.1 hs' hc hok.1 fun s' hs'=>hK _ _ hs' hok.2 hl
 | callv m f p D args i c=>
   simp only[BW] at hok hl;simp only[DOp.er,Cb]
   cases hc:MH i c D args (if m=true then Da args d else d) with
   |none=>rw[hc] at hok;exact hok.elim
   | some r=>
     obtain⟨g,v,d1⟩:=r;rw[hc] at hok hl;simp only[DT.chk_ok,DT.chk_lf] at hok hl;obtain⟨hcv,e0,hc⟩:=Xa hc;obtain⟨e1,e2⟩:=OX hc
     have hs':ES (if m=true then Da args d else d) (if m=true then fzArgs args s else s):=by
      cases m with
      |false=>exact hs
      |true=>exact Pe args hs (OR e2)
     refine⟨⟨?_,?_⟩,Xf ho.1 hs' hc hok.1 fun s' hs'=>hK _ _ hs' hok.2 hl⟩
     · rw[P5 hs' args e2,Kj,HK,hcv]
     · have:=Fy hs' (.b i) [c] (fun e=>by rw[e] at e0;cases e0);rw[this];unfold DV.ownS at e0;split at e0
       · rename_i r l h;rw[h];exact⟨_,rfl⟩
       · rename_i h;rw[h];exact⟨_,rfl⟩
       · cases e0
 | a m o ty=>
   have gen:(match A3 m o ty d with|some (g,v,st)=>DT.chk' g (K (st.put dst v))|none=>DT.bad).ok.den→(match A3 m o ty d with|some (g,v,st)=>DT.chk' g (K (st.put dst v))|none=>DT.bad).lf=some (E,D')→Cb (DOp.a m o ty).er dst k s:=by
    intro hok hl
    cases hst:A3 m o ty d with
    |none=>rw[hst] at hok;exact hok.elim
    | some r=>
      obtain⟨g,v,d1⟩:=r;rw[hst] at hok hl;simp only[DT.chk_ok,DT.chk_lf] at hok hl;obtain⟨s',e1,e2⟩:=Vr hs hst hok.1;simp only[DOp.er,Cb,e1];exact hK _ _ (e2.put dst v) hok.2 hl
   cases o<;>first|exact gen hok hl|skip
   case pick c a b=>
    clear gen;simp only[BW] at hok hl;have hc:=c.dev_ev hs
    have one:∀ (x:Opnd),(match AG x d with|(v,st)=>if v.ok=true then K (st.put dst v) else DT.bad).ok.den→(match AG x d with|(v,st)=>if v.ok=true then K (st.put dst v) else DT.bad).lf=some (E,D')→k ((mvOut x s).2.put dst (mvOut x s).1):=by
     intro x hok hl;by_cases hv:(AG x d).1.ok=true
     · simp only[Ab hv] at hok hl;obtain⟨m1,m2⟩:=Dl x hs hv;rw[m1];exact hK _ _ (m2.put dst _) hok hl
     · simp only[Ad hv] at hok;exact hok.elim
    cases hcv:c.dev d.sl with
    | bool t=>
      rw[hcv] at hc;have hp:=hc.of (by simp);simp only[DOp.er,Cb,AV,hp,DV.enc]
      cases t with
      | lit t=>
        rw[hcv] at hok hl
        cases t with
        |true=>exact one a hok hl
        |false=>exact one b hok hl
      | dyn t=>
        rw[hcv] at hok hl;simp only at hok hl;split at hok
        · rename_i h;rw[Ab h] at hl;have hok:=(PX.if_den _ _ _).mp hok
          cases t with
          |true=>exact one a (hok.1 rfl) hl
          |false=>exact one b (hok.2 rfl) hl
        · rename_i h;rw[Ad h] at hl;simp only[Jn,CK,FU] at h;obtain⟨⟨h1,h2⟩,h3⟩:=h
          have ka:a.dev d.sl≠.any:=by
           intro e;rw[e] at h3;cases hb:b.dev d.sl<;>rw[hb] at h3<;>cases h3
          have kb:b.dev d.sl≠.any:=by
           intro e;rw[e] at h3;cases hb:a.dev d.sl<;>rw[hb] at h3<;>cases h3
          have hm:Ca t (a.dev d.sl) (b.dev d.sl)≠.any:=by intro e;rw[e] at h3;cases h3
          have he:=(PM t (a.dev d.sl) (b.dev d.sl)).resolve_left hm;have:=hK _ _ (hs.put dst (Ca t (a.dev d.sl) (b.dev d.sl))) hok hl;rw[he] at this;simp only[BX.b]
          cases t with
          |true=>simp only[Az,XO a hs ka h1];exact this
          |false=>simp only[As,AB,XO b hs kb h2];exact this
    |_=>rw[hcv] at hok;exact hok.elim
theorem X9{d:DS}{s:PS}{g:Nat}{b:Bool}(hs:ES d s)(h:Aa s.sl g= .fl (.bool b)):ES (JC d g b) s:=by
 refine⟨?_,hs.bx,hs.hp⟩
 have:∀ {a:List DC} {l:List PV} (n:Nat),EL a l→Aa l n= .fl (.bool b)→EL (Ci a n (.bool (.lit b))) l:=by
  intro a
  induction a with
  |nil=>intro l n h _;exact h
  | cons c a ih=>
    intro l n h hg
    cases l with
    |nil=>exact h.elim
    | cons p l=>
      cases n with
      |zero=>exact⟨.inr hg,h.2⟩
      |succ n=>exact⟨h.1,ih n h.2 hg⟩
 exact this g hs.sl h
theorem jy{o:DOper}(ho:AllD o.op.obs){K:DS→DT}{k:PS→Prop}(hK:Nz E D' K k):Nz E D' (La o K) (fun s=>Fo o.er k s):=by
 intro d s hs hok hl
 have skip:∀ {d s},ES d s→(K (d.put o.dst (.tup []))).ok.den→(K (d.put o.dst (.tup []))).lf=some (E,D')→k (s.put o.dst (.tup [])):=fun hs hok hl=>hK _ _ (hs.put o.dst (.tup [])) hok hl
 unfold La at hok hl;unfold Fo;simp only[DOper.er]
 cases hg:o.guard with
 |none=>rw[hg] at hok hl;exact Qa ho hK d s hs hok hl
 | some g=>
   obtain⟨g,want⟩:=g;rw[hg] at hok hl;simp only at hok hl ⊢;have hv:=hs.sl.get g
   cases hgv:AR d.sl g with
   | bool t=>
     rw[hgv] at hok hl hv;have hp:=hv.of (by simp);simp only[DV.enc] at hp;rw[hp];simp only
     cases t with
     | lit t=>
       simp only at hok hl;by_cases hw:t=want
       · rw[Ab (by simpa using hw)] at hok hl;rw[Ab (show (BX.lit t).b=want from hw)];exact Qa ho hK d s hs hok hl
       · rw[Ad (by simpa using hw)] at hok hl;rw[Ad (show ¬ (BX.lit t).b=want from hw)];exact skip hs hok hl
     | dyn t=>
       simp only[BX.b] at hp ⊢;have hok:=(PX.if_den _ _ _).mp hok;have hs2:=X9 hs hp
       cases t with
       | true=>
         have hok:=hok.1 rfl;simp only[DT.lf] at hl
         cases want with
         |true=>exact Qa ho hK _ s hs2 hok hl
         |false=>exact skip hs2 hok hl
       | false=>
         have hok:=hok.2 rfl;simp only[DT.lf] at hl
         cases want with
         |true=>exact skip hs2 hok hl
         |false=>exact Qa ho hK _ s hs2 hok hl
   | tup vs=>
     cases vs with
     | nil=>
       rw[hgv] at hok hl hv;have hp:=hv.of (by simp);simp only[DV.enc,DV.encL] at hp;rw[hp];exact skip hs hok hl
     |cons v r=>rw[hgv] at hok;exact hok.elim
   |_=>rw[hgv] at hok;exact hok.elim
theorem Tn:∀ (ops:List DOper),AllD (PE ops)→∀ {k:PS→Prop},E= .normal→(∀ s,ES D' s→k s)→Nz E D' (GF ops) (fun s=>Gy (ops.map fun o=>o.er) k s)
 | [],_,k,hE,hk=>by
   intro d s hs hok hl
   simp only[GF,DT.lf,Ah,Aj] at hl
   obtain⟨_,rfl⟩:=hl
   exact hk s hs
 | o::r,ho,k,hE,hk=>by
   obtain⟨h1,h2⟩:=ho.app
   exact jy h1 (Tn r h2 hE hk)
end
theorem gv{o:DOp}{dst:Option Nat}{K:DS→DT}{b:DS}(hK:∀ d,ChgS b d→(K d).All (ChgS b)):∀ d,ChgS b d→(BW o dst K d).All (ChgS b):=by
 intro d hd
 cases o with
 | call m f p D args=>
   simp only[BW]
   cases hc:Jx D args (if m=true then Da args d else d) with
   |none=>trivial
   | some r=>
     obtain⟨g,v,d1⟩:=r;obtain⟨rfl,_⟩:=W4 hc;refine DT.chk_all _ (hK _ ((hd.trans ?_).trans (ChgS.put _ _ _)))
     cases m with
     |true=>exact DS.fzArgs_chg args d
     |false=>exact ChgS.refl d
 | aw ws m o ty=>
   simp only[BW]
   cases hst:Ja ws m o ty d with
   |none=>trivial
   | some r=>
     obtain⟨g,v,d1⟩:=r;exact DT.chk_all _ (hK _ ((hd.trans (dL hst)).trans (ChgS.put _ _ _)))
 | mark f M x y=>
   simp only[BW]
   cases hst:Js M x y d with
   |none=>trivial
   | some r=>
     obtain⟨g,v,d1⟩:=r;exact DT.chk_all _ (hK _ ((hd.trans (fv hst)).trans (ChgS.put _ _ _)))
 | callp m f p D args=>
   simp only[BW]
   cases hc:Hl D args (if m=true then Da args d else d) with
   |none=>trivial
   | some r=>
     obtain⟨g,v,d1⟩:=r;obtain⟨h1,_⟩:=OX hc;refine DT.chk_all _ (hK _ (((hd.trans ?_).trans h1).trans (ChgS.put _ _ _)))
     cases m with
     |true=>exact DS.fzArgs_chg args d
     |false=>exact ChgS.refl d
 | callv m f p D args i c=>
   simp only[BW]
   cases hc:MH i c D args (if m=true then Da args d else d) with
   |none=>trivial
   | some r=>
     obtain⟨g,v,d1⟩:=r;obtain⟨_,_,hc⟩:=Xa hc;obtain⟨h1,_⟩:=OX hc;refine DT.chk_all _ (hK _ (((hd.trans ?_).trans h1).trans (ChgS.put _ _ _)))
     cases m with
     |true=>exact DS.fzArgs_chg args d
     |false=>exact ChgS.refl d
 | a m o ty=>
   have gen:(match A3 m o ty d with|some (g,v,st)=>DT.chk' g (K (st.put dst v))|none=>DT.bad).All (ChgS b):=by
    cases hst:A3 m o ty d with
    |none=>trivial
    | some r=>
      obtain⟨g,v,d1⟩:=r;exact DT.chk_all _ (hK _ ((hd.trans (Wl hst)).trans (ChgS.put _ _ _)))
   cases o<;>first|exact gen|skip
   case pick c x y=>
    simp only[BW]
    have one:∀ (x:Opnd),(match AG x d with|(v,st)=>if v.ok=true then K (st.put dst v) else DT.bad).All (ChgS b):=by
     intro x;simp only;split
     · exact hK _ ((hd.trans (ChgS.mvOut x d)).trans (ChgS.put _ _ _))
     · trivial
    cases hcv:c.dev d.sl with
    | bool t=>
      cases t with
      |lit t=>cases t<;>exact one _
      | dyn t=>
        simp only;split
        · exact⟨one x,one y⟩
        · exact hK _ (hd.trans (ChgS.put _ _ _))
    |_=>trivial
theorem RU(d:DS)(g:Nat)(t:Bool):ChgS d (JC d g t):=⟨Chg.put _ _ _,ChgB.refl _,ChgB.refl _⟩
theorem fS{o:DOper}{K:DS→DT}{b:DS}(hK:∀ d,ChgS b d→(K d).All (ChgS b)):∀ d,ChgS b d→(La o K d).All (ChgS b):=by
 intro d hd;unfold La;have hp:=gv (o:=o.op) (dst:=o.dst) hK
 cases hg:o.guard with
 |none=>exact hp d hd
 | some g=>
   obtain⟨g,want⟩:=g;simp only
   cases hgv:AR d.sl g with
   | bool t=>
     cases t with
     | lit t=>
       simp only;split
       · exact hp d hd
       · exact hK _ (hd.trans (ChgS.put _ _ _))
     | dyn t=>
       have h1:=hd.trans (RU d g true);have h2:=hd.trans (RU d g false)
       cases want with
       |true=>exact⟨hp _ h1,hK _ (h2.trans (ChgS.put _ _ _))⟩
       |false=>exact⟨hK _ (h1.trans (ChgS.put _ _ _)),hp _ h2⟩
   | tup vs=>
     cases vs with
     |nil=>exact hK _ (hd.trans (ChgS.put _ _ _))
     |cons v r=>trivial
   |_=>trivial
theorem Sg{b:DS}:∀ (ops:List DOper) (d:DS),ChgS b d→(GF ops d).All (ChgS b)
 |[],_,h=>h
 |_::r,d,h=>fS (Sg r) d h
theorem YI:∀ (ops:List DOper) {d d':DS} {e:AExit},(GF ops d).lf=some (e,d')→e= .normal:=by
 intro ops
 have pick : ∀ {K:DS→DT} {e:AExit} {d':DS},(∀ d,(K d).lf=some (e,d')→e= .normal)→∀ (o:DOp) (dst:Option Nat) (d:DS),(BW o dst K d).lf=some (e,d')→e= .normal:=by
  intro K e d' hK o dst d hl
  cases o with
  | call m f p D args=>
    simp only[BW] at hl;split at hl
    · rw[DT.chk_lf] at hl;exact hK _ hl
    · cases hl
  | aw ws m o ty=>
    simp only[BW] at hl;split at hl
    · rw[DT.chk_lf] at hl;exact hK _ hl
    · cases hl
  | mark f M x y=>
    simp only[BW] at hl;split at hl
    · rw[DT.chk_lf] at hl;exact hK _ hl
    · cases hl
  | callp m f p D args=>
    simp only[BW] at hl;split at hl
    · rw[DT.chk_lf] at hl;exact hK _ hl
    · cases hl
  | callv m f p D args i c=>
    simp only[BW] at hl;split at hl
    · rw[DT.chk_lf] at hl;exact hK _ hl
    · cases hl
  | a m o ty=>
    have gen:(match A3 m o ty d with|some (g,v,st)=>DT.chk' g (K (st.put dst v))|none=>DT.bad).lf=some (e,d')→e= .normal:=by
     intro hl;split at hl
     · rw[DT.chk_lf] at hl;exact hK _ hl
     · cases hl
    cases o<;>first|exact gen hl|skip
    case pick c x y=>
     simp only[BW] at hl
     have one:∀ (x:Opnd),(match AG x d with|(v,st)=>if v.ok=true then K (st.put dst v) else DT.bad).lf=some (e,d')→e= .normal:=by
      intro x hl;simp only at hl;split at hl
      · exact hK _ hl
      · cases hl
     cases hcv:c.dev d.sl with
     | bool t=>
       rw[hcv] at hl
       cases t with
       |lit t=>cases t<;>exact one _ hl
       | dyn t=>
         simp only at hl;split at hl
         · cases t<;>exact one _ hl
         · exact hK _ hl
     |_=>rw[hcv] at hl;cases hl
 induction ops with
 | nil=>
   intro d d' e hl;simp only[GF,DT.lf,Ah,Aj] at hl;exact hl.1.symm
 | cons o r ih=>
   intro d d' e hl
   have hr:∀ d,(GF r d).lf=some (e,d')→e= .normal:=fun d h=>ih h
   simp only[GF] at hl;unfold La at hl
   cases hg:o.guard with
   |none=>rw[hg] at hl;exact pick hr _ _ _ hl
   | some g=>
     obtain⟨g,want⟩:=g;rw[hg] at hl;simp only at hl
     cases hgv:AR d.sl g with
     | bool t=>
       rw[hgv] at hl
       cases t with
       | lit t=>
         simp only at hl;split at hl
         · exact pick hr _ _ _ hl
         · exact hr _ hl
       | dyn t=>
         cases t<;>cases want<;>first|exact pick hr _ _ _ hl|exact hr _ hl
     | tup vs=>
       rw[hgv] at hl
       cases vs with
       |nil=>exact hr _ hl
       |cons v r=>cases hl
     |_=>rw[hgv] at hl;cases hl
theorem EL.put1{v:DV}:∀ {a:List DC} {b:List PV} (n:Nat),EL a b→EV v (Aa b n)→EL (Ci a n v) b
 |[],_,_,h,_=>h
 |_::_,[],_,h,_=>h.elim
 |_::_,_::_,0,h,hv=>⟨hv,h.2⟩
 |_::_,_::_,n+1,h,hv=>⟨h.1,EL.put1 n h.2 hv⟩
theorem EBx.put1{v:DV}{a:List DC}{b:List PV}(n:Nat)(h:EBx a b)(hv:EV v (Aa b n)):EBx (Ci a n v) b:=by
 rcases h with rfl|h
 · exact .inl rfl
 · exact .inr (h.put1 n hv)
theorem EB.put1{v:List DC}:∀ {a:List (List DC)} {b:List (List PV)} (n:Nat),EB a b→EBx v (Ak b n)→EB (DR a n v) b
 |[],_,_,h,_=>h
 |_::_,[],_,h,_=>h.elim
 |_::_,_::_,0,h,hv=>⟨hv,h.2⟩
 |_::_,_::_,n+1,h,hv=>⟨h.1,EB.put1 n h.2 hv⟩
def PS.at(s:PS):Pl→PV
 |.s i=>Aa s.sl i
 |.b i c=>Aa (Ak s.bx i) c
 |.h i c=>Aa (Ak s.hp i) c
theorem EBx.get{a:List DC}{b:List PV}(n:Nat)(h:EBx a b):EV (AR a n) (Aa b n):=by
 rcases h with rfl|h
 · exact .inl rfl
 · exact h.get n
theorem ES.at{d:DS}{s:PS}(h:ES d s)(pl:Pl):EV (d.at pl) (s.at pl):=by
 cases pl with
 |s i=>exact h.sl.get i
 |b i c=>exact(h.bx.get i).get c
 |h i c=>exact(h.hp.get i).get c
theorem ES.wr{d:DS}{s:PS}(h:ES d s)(pl:Pl){v:DV}(hv:EV v (s.at pl)):ES (d.wr v pl) s:=by
 cases pl with
 |s i=>exact⟨h.sl.put1 i hv,h.bx,h.hp⟩
 |b i c=>exact⟨h.sl,h.bx.put1 i ((h.bx.get i).put1 c hv),h.hp⟩
 |h i c=>exact⟨h.sl,h.bx,h.hp.put1 i ((h.hp.get i).put1 c hv)⟩
theorem MW{q:Ql}{t:CT}{v:DV}{x:t.D}(h:t.ofQ q v=some x):(t.dv q x).enc=v.enc∧v≠.any:=by
 cases t with
 | int k=>
   cases v<;>try (cases h;done)
   rename_i k' n;have h':(if IntKind.same k k'=true then some n else none)=some x:=h;clear h;split at h'
   · rename_i hk;have:=PD hk;subst this
     have h':=BQ h';subst h';exact⟨rfl,by simp⟩
   · cases h'
 | bool=>
   cases v<;>try (cases h;done)
   have h:=BQ h;subst h;exact⟨rfl,by simp⟩
 | str=>
   cases v<;>try (cases h;done)
   have h:=BQ h;subst h;exact⟨rfl,by simp⟩
 | ifc=>
   cases v<;>try (cases h;done)
   have h:=BQ h;subst h;exact⟨rfl,by simp⟩
 | sl r=>
   cases v<;>try (cases h;done)
   case nil q'=>
    have h':(if Di q q'=true then some ([]:List r.D) else none)=some x:=h;clear h;split at h'
    · rename_i hq;have:=Jc hq;subst this
      have h':=BQ h';subst h';exact⟨rfl,by simp⟩
    · cases h'
   case sl q' r' l=>
    have h':(if Di q q'=true then Jw (r':=r') (r:=r) l else none)=some x:=h;clear h;split at h'
    · rename_i hq;have:=Jc hq;subst this
      refine⟨?_,by simp⟩;show PV.sl q _=PV.sl q _;rw[(Pb h').2]
    · cases h'
theorem Qo:∀ {l:List (Ql×CT)} {vs:List DV} {x:AgX l},Dw l vs=some x→DV.encL (BU l x)=DV.encL vs
 |[],[],_,_=>rfl
 | [a],[v],x,h=>by
   show [(a.2.dv a.1 x).enc]=[v.enc]
   rw[(MW (q:=a.1) (t:=a.2) h).1]
 | a :: b::r,v::vs,x,h=>by
   have h':(match a.2.ofQ a.1 v,Dw (b::r) vs with|some x,some y=>some (x,y)|_,_=>none)=some x:=h
   clear h
   cases h1:a.2.ofQ a.1 v with
   |none=>rw[h1] at h';cases h'
   | some p=>
     cases h2:Dw (b::r) vs with
     |none=>rw[h1,h2] at h';cases h'
     | some q=>
       rw[h1,h2] at h'
       have h':=BQ h'
       subst h'
       show (a.2.dv a.1 p).enc::DV.encL (BU (b::r) q)=v.enc::DV.encL vs
       rw[(MW h1).1,Qo h2]
theorem M7{t:HT}{v:DV}{x:t.D}(h:t.of v=some x):(t.dv x).enc=v.enc∧v≠.any:=by
 cases t with
 |one q t=>exact MW (q:=q) (t:=t) h
 | agg l=>
   cases v<;>try (cases h;done)
   rename_i cs;refine⟨?_,by simp⟩;show PV.agg _=PV.agg _;rw[Qo (l:=l) h]
theorem TR{A:DS}{s:PS}(hA:ES A s):∀ (H:List Hole) {K:DS} {x:Fp H},ES K s→Iy A H=some x→ES (wrX K H x) s
 |[],K,x,hK,_=>hK
 | [a],K,x,hK,h=>by
   have h:a.t.of (A.at a.pl)=some x:=h
   obtain⟨h1,h2⟩:=M7 h
   refine hK.wr a.pl (.inr ?_)
   rw[h1,(hA.at a.pl).of h2]
 | a :: b::r,K,x,hK,h=>by
   have h':(match a.t.of (A.at a.pl),Iy A (b::r) with|some x,some y=>some (x,y)|_,_=>none)=some x:=h
   clear h
   cases h1:a.t.of (A.at a.pl) with
   |none=>rw[h1] at h';cases h'
   | some p=>
     cases h2:Iy A (b::r) with
     |none=>rw[h1,h2] at h';cases h'
     | some q=>
       rw[h1,h2] at h'
       have h':=BQ h'
       subst h'
       obtain⟨h3,h4⟩:=M7 h1
       refine TR hA (b::r) (x:=q) (hK.wr a.pl (.inr ?_)) h2
       rw[h3,(hA.at a.pl).of h4]
theorem YN(d:DS)(v:DV)(pl:Pl):ChgS d (d.wr v pl):=by
 cases pl with
 |s i=>exact⟨Chg.put _ _ _,ChgB.refl _,ChgB.refl _⟩
 |b i c=>exact⟨Chg.refl _,ChgB.put _ _ (Chg.put _ _ _),ChgB.refl _⟩
 |h i c=>exact⟨Chg.refl _,ChgB.refl _,ChgB.put _ _ (Chg.put _ _ _)⟩
theorem XB:∀ (H:List Hole) (d:DS) (x:Fp H),ChgS d (wrX d H x)
 |[],d,_=>ChgS.refl d
 |[a],d,_=>YN d _ _
 |a::b::r,d,x=>(YN d _ _).trans (XB (b::r) _ _)
def LeC:List DC→List DC→Prop
 |[],[]=>True
 |k::a,b::r=>(k.v= .any∨k.v=b.v)∧LeC a r
 |_,_=>False
def LeB:List (List DC)→List (List DC)→Prop
 |[],[]=>True
 |k::a,b::r=>(k=[]∨LeC k b)∧LeB a r
 |_,_=>False
structure LeS (k b:DS):Prop where
 sl:LeC k.sl b.sl
 bx:LeB k.bx b.bx
 hp:LeB k.hp b.hp
theorem LeC.refl:∀ (k:List DC),LeC k k
 |[]=>trivial
 |_::r=>⟨.inr rfl,LeC.refl r⟩
theorem LeB.refl:∀ (k:List (List DC)),LeB k k
 |[]=>trivial
 |k::r=>⟨.inr (LeC.refl k),LeB.refl r⟩
theorem LeC.put{v:DV}:∀ {k b:List DC} (n:Nat),LeC k b→AR k n= .any→LeC k (Ci b n v)
 |[],[],_,h,_=>h
 |[],_::_,_,h,_=>h.elim
 |_::_,[],_,h,_=>h.elim
 |_::_,_::_,0,h,ha=>⟨.inl ha,h.2⟩
 |_::_,_::_,n+1,h,ha=>⟨h.1,LeC.put n h.2 ha⟩
theorem LeB.put{v:DV}:∀ {k b:List (List DC)} (i c:Nat),LeB k b→AR (A9 k i) c= .any→LeB k (DR b i (Ci (A9 b i) c v))
 |[],[],_,_,h,_=>h
 |[],_::_,_,_,h,_=>h.elim
 |_::_,[],_,_,h,_=>h.elim
 |_::_,_::_,0,c,h,ha=>⟨h.1.imp id fun h=>h.put c ha,h.2⟩
 |_::_,_::_,n+1,c,h,ha=>⟨h.1,LeB.put n c h.2 ha⟩
theorem Xi{v:DV}(h:v.isAny=true):v= .any:=by cases v<;>first|rfl|cases h
theorem LeS.wr{k b:DS}{v:DV}{pl:Pl}(h:LeS k b)(ha:(k.at pl).isAny=true):LeS k (b.wr v pl):=by
 have ha:=Xi ha
 cases pl with
 |s i=>exact⟨h.sl.put i ha,h.bx,h.hp⟩
 |b i c=>exact⟨h.sl,h.bx.put i c ha,h.hp⟩
 |h i c=>exact⟨h.sl,h.bx,h.hp.put i c ha⟩
theorem LeS.wrX{k:DS}:∀ (H:List Hole) {b:DS} (x:Fp H),LeS k b→Ks k H=true→LeS k (Go.Ag.wrX b H x)
 |[],_,_,h,_=>h
 | [a],_,_,h,ha=>by
   simp only[Ks,Ai] at ha;exact h.wr ha.1
 | a :: b::r,_,x,h,ha=>by
   have ha':(k.at a.pl).isAny=true∧Ks k (b::r)=true:=by
    have:((k.at a.pl).isAny&&Ks k (b::r))=true:=ha;simpa [Ai] using this
   exact LeS.wrX (b::r) _ (h.wr ha'.1) ha'.2
theorem gA{a b:DV}(h:a.same b=true):a.enc=b.enc∧b≠.any:=by
 cases a<;>cases b<;>first|(cases h;done)|skip
 case undef.undef=>exact⟨rfl,by simp⟩
 case nil.nil q q'=>have:=Jc h;subst this;exact⟨rfl,by simp⟩
 case box.box=>simp only[DV.same,Ai,AA] at h;obtain⟨rfl,rfl⟩:=h;exact⟨rfl,by simp⟩
 case ptr.ptr=>simp only[DV.same,Ai,AA] at h;obtain⟨rfl,rfl⟩:=h;exact⟨rfl,by simp⟩
theorem Tu:∀ {k b y:List DC} {p:List PV},Nw k y=true→LeC k b→Chg (Go.Ag.clean b) y→EL y p→EL k p
 |[],_,[],p,_,_,_,h=>h
 |[],_,_::_,_,h,_,_,_=>by cases h
 |_::_,_,[],_,h,_,_,_=>by cases h
 |_::_,[],_::_,_,_,h,_,_=>h.elim
 |_::_,_::_,_::_,[],_,_,_,h=>h.elim
 | k :: a,b::r,y::l,q::p,h,hl,hc,he=>by
   simp only[Nw,Ai,B0] at h;refine⟨?_,Tu h.2 hl.2 hc.2 he.2⟩;rcases h.1 with(h1|h1)|h1
   · exact .inl (Xi h1)
   · rcases hl.1 with h2|h2
     · exact .inl h2
     · rcases hc.1 with h3|h3
       · simp[h3] at h1
       · have:y.v=k.v:=by rw[h3,h2]
         rcases he.1 with h4|h4
         · exact .inl (by rw[← this];exact h4)
         · exact .inr (by rw[← this];exact h4)
   · obtain⟨h2,h3⟩:=gA h1;rcases he.1 with h4|h4
     · exact absurd h4 h3
     · exact .inr (by rw[h2];exact h4)
theorem Ta:∀ {k b y:List (List DC)} {p:List (List PV)},Nt k y=true→LeB k b→ChgB (K5 b) y→EB y p→EB k p
 |[],_,[],p,_,_,_,h=>h
 |[],_,_::_,_,h,_,_,_=>by cases h
 |_::_,_,[],_,h,_,_,_=>by cases h
 |_::_,[],_::_,_,_,h,_,_=>h.elim
 |_::_,_::_,_::_,[],_,_,_,h=>h.elim
 | k :: a,b::r,y::l,q::p,h,hl,hc,he=>by
   simp only[Nt,Ai,B0,AA] at h
   refine⟨?_,Ta h.2 hl.2 hc.2 he.2⟩
   rcases h.1 with h1|h1
   · exact .inl (Ex h1)
   · rcases hl.1 with h2|h2
     · exact .inl h2
     · rcases he.1 with h3|h3
       · subst h3
         cases k with
         |nil=>exact .inl rfl
         |cons=>cases h1
       · exact .inr (Tu h1 h2 hc.1 h3)
theorem kn{k b y:DS}{s:PS}(h:Uf k y=true)(hl:LeS k b)(hc:ChgS b.clean y)(he:ES y s):ES k s:=by
 simp only[Uf,Ai] at h;exact⟨Tu h.1.1 hl.sl hc.sl he.sl,Ta h.1.2 hl.bx hc.bx he.bx,Ta h.2 hl.hp hc.hp he.hp⟩
theorem TK(pl:Nat→Pl):∀ (n:Nat) (x y:List DC),Chg x (Hr pl n x y).2∧∀ p,EL x p→EL (Hr pl n x y).2 p
 |_,[],_=>⟨trivial,fun _ h=>h⟩
 |_,_::_,[]=>⟨Chg.refl _,fun _ h=>h⟩
 | n,x::a,y::b=>by
   obtain⟨h1,h2⟩:=TK pl (n+1) a b
   simp only[Hr]
   cases hr:Hr pl (n+1) a b with
   | mk H l=>
     rw[hr] at h1 h2
     cases Zp x.v y with
     |left=>exact⟨⟨.inr rfl,h1⟩,fun p h=>by cases p with|nil=>exact h|cons q p=>exact⟨h.1,h2 p h.2⟩⟩
     |hole t=>exact⟨⟨.inl rfl,h1⟩,fun p h=>by cases p with|nil=>exact h|cons q p=>exact⟨.inl rfl,h2 p h.2⟩⟩
     |kill=>exact⟨⟨.inl rfl,h1⟩,fun p h=>by cases p with|nil=>exact h|cons q p=>exact⟨.inl rfl,h2 p h.2⟩⟩
theorem S9(pl:Nat→Nat→Pl):∀ (n:Nat) (x y:List (List DC)),ChgB x (Jz pl n x y).2∧∀ p,EB x p→EB (Jz pl n x y).2 p
 |_,[],_=>⟨trivial,fun _ h=>h⟩
 |_,_::_,[]=>⟨ChgB.refl _,fun _ h=>h⟩
 | n, x :: a,y::b=>by
   obtain⟨h1,h2⟩:=S9 pl (n+1) a b
   simp only[Jz]
   cases hr:Jz pl (n+1) a b with
   | mk H l=>
     rw[hr] at h1 h2
     simp only
     split
     · obtain⟨h3,h4⟩:=TK (pl n) 0 x y
       cases hc:Hr (pl n) 0 x y with
       | mk H' x'=>
         rw[hc] at h3 h4
         exact⟨⟨h3,h1⟩,fun p h=>by
          cases p with
          |nil=>exact h
          |cons q p=>exact⟨h.1.elim (fun e=>by subst e;cases y<;>(simp only[Hr] at hc;simp only[Aj] at hc;exact .inl hc.2.symm)) fun h=>.inr (h4 q h),h2 p h.2⟩⟩
     · exact⟨⟨by cases x<;>trivial,h1⟩,fun p h=>by cases p with|nil=>exact h|cons q p=>exact⟨.inl rfl,h2 p h.2⟩⟩
theorem Yr(x y:DS):ChgS x (Ny x y).2∧∀ s,ES x s→ES (Ny x y).2 s:=by
 obtain⟨h1,h2⟩:=TK .s 0 x.sl y.sl;obtain⟨h3,h4⟩:=S9 .b 0 x.bx y.bx;obtain⟨h5,h6⟩:=S9 .h 0 x.hp y.hp;exact⟨⟨h1,h3,h5⟩,fun s h=>⟨h2 _ h.sl,h4 _ h.bx,h6 _ h.hp⟩⟩
theorem SK{live:List Nat}{body:DS→DT}{A:DS}:∀ {n:Nat} {cur:DS} {H:List Hole} {K:DS},M9 live body A n cur=some (H,K)→∃ Y,Ny A Y=(H,K)
 | 0,cur,H,K,h=>by
   simp only[M9] at h
   split at h
   · rename_i m _
     exact⟨_,BQ h⟩
   · cases h
 | n + 1,cur,H,K,h=>by
   simp only[M9] at h
   split at h
   · split at h
     · exact SK h
     · cases h
   · cases h
theorem Ru(live:List Nat)(d:DS):ChgS d (CL live d):=⟨Chg.keep _ _ _,ChgB.refl _,ChgB.refl _⟩
theorem ft(live:List Nat)(d:DS):ChgS d (Qq live d):=⟨Chg.trim _ _ _,ChgB.refl _,ChgB.refl _⟩
theorem jO {live:List Nat} {n:Nat} {body:DS→DT} {pb:Eb→PS→Prop} (hall:∀ d,(body d).All (ChgS d.clean))
 (hb:∀ d s e d' (k:Eb),ES d s→(body d).ok.den→(body d).lf=some (e,d')→(∀ s',ES d' s'→k e s')→pb k s)
 {d d':DS} {s:PS} {e:AExit} {k:Eb} (hs:ES d s) (hok:(K9 live n body d).ok.den) (hl:(K9 live n body d).lf=some (e,d')) (hk:∀ s',ES d' s'→k e s'):∃ n,M3 pb live k n s:=by
 have hA:ES (CL live d) { s with sl:=Dd live 0 s.sl }:=hs.keep live
 unfold K9 at hok hl
 split at hok
 · rename_i hn
   rw[Ab hn] at hl;rw[DT.map_ok] at hok;rw[DT.map_lf] at hl;obtain⟨e0,d0,h0⟩:=DT.ok_lf hok;rw[h0] at hl;simp only[Bw,Ah,Aj] at hl;obtain⟨rfl,rfl⟩:=hl
   have hn:(body (CL live d)).norm= .none:=by cases h:(body (CL live d)).norm<;>rw[h] at hn<;>first|rfl|cases hn
   have he:=DT.norm_none hn h0;refine⟨1,hb _ _ _ _ _ hA hok h0 fun s' hs'=>?_⟩
   cases e0<;>first|(cases he;done)|exact hk _ hs'.rem
 · rename_i hn
   rw[Ad hn] at hl;split at hok
   · exact hok.elim
   · rename_i H K hd;rw[hd] at hl;simp only at hl;obtain⟨Y,hY⟩:=SK hd;split at hok
     · exact hok.elim
     · rename_i x0 hx0;rw[hx0] at hl;simp only at hl;split at hok
       · rename_i hh;rw[Ab hh] at hl;simp only[DT.ok,PX.land_den,PX.den] at hok;obtain⟨hlo,_⟩:=hok;simp only[DT.lf] at hl
         have hK:ES K { s with sl:=Dd live 0 s.sl }:=by
          have:=(Yr (CL live d) Y).2 _ hA;rw[hY] at this;exact this
         have h0:ES (wrX K H x0) { s with sl:=Dd live 0 s.sl }:=TR hA H hK hx0;have hto:=hlo.to
         have hle:∀ x,LeS K (wrX K H x):=fun x=>LeS.wrX H x ⟨LeC.refl _,LeB.refl _,LeB.refl _⟩ hh
         have main:∀ {x y:Fp H},LoopTo (Lb body K H) (K7 live body K H) (fun x=>(Y4 live body K H x).den) x y →
          ((lT body K H y).drop.map (Iv (wrX K H y))).lf=some (e,d') →
          ∃ n,∀ s:PS,ES (wrX K H x) { s with sl:=Dd live 0 s.sl }→M3 pb live k n s:=by
          intro x y h
          induction h with
          | stop hg hc=>
            rename_i x;intro hl;have hg:=((PX.land_den _ _).mp hg).1;obtain⟨e0,d0,h0⟩:=DT.ok_lf hg
            have he:e0.isN=false:=by
             unfold Lb at hc
             cases hcc:(lT body K H x).cont with
             |none=>rw[DT.cont_none hcc] at h0;cases h0
             |some b=>rw[hcc] at hc;rw[← DT.cont_s hcc h0];exact hc
            rw[DT.map_lf,DT.drop_lf h0 he] at hl;simp only[Bw,Ah,Aj] at hl;obtain⟨rfl,rfl⟩:=hl;refine⟨1,fun s hs=>hb _ _ _ _ _ hs hg h0 fun s' hs'=>?_⟩
            cases e0<;>first|(cases he;done)|exact hk _ hs'.rem
          | go hg hc h3 ih=>
            rename_i x y';intro hl;obtain⟨n,ih⟩:=ih hl;have hg2:=(PX.land_den _ _).mp hg;obtain⟨e0,d0,h0⟩:=DT.ok_lf hg2.1
            have he:e0= .normal:=by
             unfold Lb at hc
             cases hcc:(lT body K H x).cont with
             |none=>rw[DT.cont_none hcc] at h0;cases h0
             | some b=>
               rw[hcc] at hc;have:=DT.cont_s hcc h0;rw[show b.b=true from hc] at this
               cases e0<;>first|rfl|cases this
            subst he;refine⟨n+1,fun s hs=>hb _ _ _ _ _ hs hg2.1 h0 fun s' hs'=>?_⟩;refine ih s' ?_;have hg3:=hg2.2
            cases hnm:(lT body K H x).norm with
            |none=>have:=DT.norm_none hnm h0;cases this
            |fail=>rw[hnm] at hg3;exact hg3.elim
            | some m=>
              rw[hnm] at hg3;simp only at hg3;split at hg3
              · rename_i hf;simp only[Ai] at hf;obtain⟨hf1,hf2⟩:=hf;have hm:ES m s':=DT.norm_s (hall _) hnm h0 hs';have hm2:=hm.keep live;have hch:ChgS (wrX K H x).clean (CL live m):=(DT.norm_chg (hall _) hnm).trans (Ru live m);have hK':=kn hf1 (hle x) hch hm2;obtain⟨y2,hy2⟩:=Option.isSome_iff_exists.mp hf2
                have hnx:K7 live body K H x=y2:=by unfold K7;rw[hnm];simp only[hy2]
                rw[hnx];exact TR hm2 H hK' hy2
              · exact hg3.elim
         obtain⟨n,hn⟩:=main hto hl;exact⟨n,hn s h0⟩
       · exact hok.elim
theorem gu{live:List Nat}{n:Nat}{body:DS→DT}(hall:∀ d,(body d).All (ChgS d.clean))(d:DS):(K9 live n body d).All (ChgS d):=by
 unfold K9;split
 · exact DT.map_all (fun st h=>(Ru live d).trans h.rem) (hall _)
 · split
   · trivial
   · rename_i H K hd;obtain⟨Y,hY⟩:=SK hd;split
     · trivial
     · split
       · have hK:ChgS d K:=by
          have:=(Yr (CL live d) Y).1;rw[hY] at this;exact(Ru live d).trans this
         exact DT.map_all (fun st h=>(hK.trans (XB H K _)).trans h.rem) (DT.drop_all (hall _))
       · trivial
end
end Go.Ag
