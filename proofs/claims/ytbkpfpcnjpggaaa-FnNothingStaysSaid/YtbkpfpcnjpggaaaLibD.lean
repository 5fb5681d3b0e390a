/- Part 4 of what FnNothingStays needs. No conditions. -/
import Derived.Test.YtbkpfpcnjpggaaaLibC
namespace Go.Ag
set_option linter.unusedSimpArgs false
set_option linter.unusedVariables false
noncomputable section
noncomputable section
def shut.{u}{α:Sort u}(a:α):{x:α // x=a}:=Classical.choice ⟨⟨a,rfl⟩⟩
section
variable {α:Type}
def ZbS(k:IntKind)(a b:Int):Int:=k.wrap (a+b)
def ZbL(k:IntKind)(a b:Int):Int:=k.wrap (a-b)
def ZbQ(k:IntKind)(a b:Int):Int:=k.wrap (a*b)
def Zcc(k:IntKind)(a b:Int):Int:=k.wrap (a.tdiv b)
def ZbV(a b:Int):Int:=a.tmod b
def Zb3(k:IntKind)(a b:Int):Int:=k.wrap (BitVec.ofInt k.bits a &&& BitVec.ofInt k.bits b).toNat
def Zcl(k:IntKind)(a b:Int):Int:=k.wrap (BitVec.ofInt k.bits a ||| BitVec.ofInt k.bits b).toNat
def ZbH(k:IntKind)(a b:Int):Int:=k.wrap (BitVec.ofInt k.bits a ^^^ BitVec.ofInt k.bits b).toNat
def zv(k:IntKind)(a b:Int):Int:=k.wrap (BitVec.ofInt k.bits a &&& ~~~BitVec.ofInt k.bits b).toNat
def ZbT(k:IntKind)(a b:Int):Int:=k.wrap (a*2^min b.toNat k.bits)
def Zb7(k:IntKind)(a b:Int):Int:=a.fdiv (2^min b.toNat k.bits)
def Zca(k:IntKind)(a:Int):Int:=k.wrap (0-a)
def Zbm(k:IntKind)(a:Int):Int:=k.wrap a
def Zbw(a b:Int):Int:=if b<a then b else a
def ZbB(a b:Int):Int:=if b > a then b else a
def Zb0(a:Int):Nat:=a.toNat
def Zci(a b:Int):Bool:=a == b
def Zco(a b:Int):Bool:=a != b
def Zcr(a b:Int):Bool:=decide (a<b)
def Zck(a b:Int):Bool:=decide (a<=b)
def Zcf(a b:Int):Bool:=decide (a > b)
def Zcs(a b:Int):Bool:=decide (a>=b)
def ZbF(a b:List UInt8):List UInt8:=a++b
def Zch(a b:List UInt8):Bool:=a == b
def Zcj(a b:List UInt8):Bool:=!(a == b)
def ZbE(s:List UInt8)(j:Int):Int:=(s.getD j.toNat 0).toNat
def Zb6(s:List UInt8):List Int:=s.map λ b=>((b.toNat:Nat):Int)
def Zbt(l:List Int):List UInt8:=l.map λ n=>UInt8.ofNat n.toNat
def Zby(l:List α):Int:=l.length
def Zcu(l:List α):Nat:=l.length
def ZbN(l:List α)(j:Nat)(d:α):α:=l.getD j d
def ZbY(l:List α)(j:Nat)(x:α):List α:=l.set j x
def Zbx(l:List α)(a b:Nat):List α:=(l.drop a).take (b-a)
def Za4(l:List α)(n:Nat):List α:=l.take n
def ZbP(l m:List α):List α:=l++m
def ZbR(n:Int)(x:α):List α:=List.replicate n.toNat x
def Zcb(a:Bool):Bool:=!a
def Zce(a b:Bool):Bool:=a&&b
def Zcm(a b:Bool):Bool:=a||b
def Zb4(a b:Bool):Bool:=a == b
def Zbs(c:Bool)(x y:α):α:=bif c then x else y
end
structure Leaf where
 iAdd:∀ (k:IntKind) (a b:Int),Int
 iSub:∀ (k:IntKind) (a b:Int),Int
 iMul:∀ (k:IntKind) (a b:Int),Int
 iQuo:∀ (k:IntKind) (a b:Int),Int
 iRem:∀ (a b:Int),Int
 iAnd:∀ (k:IntKind) (a b:Int),Int
 iOr:∀ (k:IntKind) (a b:Int),Int
 iXor:∀ (k:IntKind) (a b:Int),Int
 iAndNot:∀ (k:IntKind) (a b:Int),Int
 iShl:∀ (k:IntKind) (a b:Int),Int
 iShr:∀ (k:IntKind) (a b:Int),Int
 iNeg:∀ (k:IntKind) (a:Int),Int
 iConv:∀ (k:IntKind) (a:Int),Int
 iMin:∀ (a b:Int),Int
 iMax:∀ (a b:Int),Int
 iNat:∀ (a:Int),Nat
 iEq:∀ (a b:Int),Bool
 iNe:∀ (a b:Int),Bool
 iLt:∀ (a b:Int),Bool
 iLe:∀ (a b:Int),Bool
 iGt:∀ (a b:Int),Bool
 iGe:∀ (a b:Int),Bool
 sAdd:∀ (a b:List UInt8),List UInt8
 sEq:∀ (a b:List UInt8),Bool
 sNe:∀ (a b:List UInt8),Bool
 sGet:∀ (s:List UInt8) (j:Int),Int
 sRow:∀ (s:List UInt8),List Int
 rowS:∀ (l:List Int),List UInt8
 lLen:∀ {α:Type} (l:List α),Int
 lN:∀ {α:Type} (l:List α),Nat
 lGet:∀ {α:Type} (l:List α) (j:Nat) (d:α),α
 lSet:∀ {α:Type} (l:List α) (j:Nat) (x:α),List α
 lSub:∀ {α:Type} (l:List α) (a b:Nat),List α
 lTake:∀ {α:Type} (l:List α) (n:Nat),List α
 lApp:∀ {α:Type} (l m:List α),List α
 lRep:∀ {α:Type} (n:Int) (x:α),List α
 bNot:∀ (a:Bool),Bool
 bAnd:∀ (a b:Bool),Bool
 bOr:∀ (a b:Bool),Bool
 bIff:∀ (a b:Bool),Bool
 bSel:∀ {α:Type} (c:Bool) (x y:α),α
def mr:Leaf:=⟨@ZbS,@ZbL,@ZbQ,@Zcc,@ZbV,@Zb3,@Zcl,@ZbH,@zv,@ZbT,@Zb7,@Zca,@Zbm,@Zbw,@ZbB,@Zb0,@Zci,@Zco,@Zcr,@Zck,@Zcf,@Zcs,@ZbF,@Zch,@Zcj,@ZbE,@Zb6,@Zbt,@Zby,@Zcu,@ZbN,@ZbY,@Zbx,@Za4,@ZbP,@ZbR,@Zcb,@Zce,@Zcm,@Zb4,@Zbs⟩
def AF:{l:Leaf // l=mr}:=Classical.choice ⟨⟨mr,rfl⟩⟩
section
variable {α:Type}
@[irreducible] def iAdd(k:IntKind)(a b:Int):Int:=AF.1.iAdd k a b
theorem lO(k:IntKind)(a b:Int):iAdd k a b=(k.wrap (a+b)):=by unfold iAdd;rw[AF.2];rfl
@[irreducible] def iSub(k:IntKind)(a b:Int):Int:=AF.1.iSub k a b
theorem ln(k:IntKind)(a b:Int):iSub k a b=(k.wrap (a-b)):=by unfold iSub;rw[AF.2];rfl
@[irreducible] def iMul(k:IntKind)(a b:Int):Int:=AF.1.iMul k a b
theorem lE(k:IntKind)(a b:Int):iMul k a b=(k.wrap (a*b)):=by unfold iMul;rw[AF.2];rfl
@[irreducible] def iQuo(k:IntKind)(a b:Int):Int:=AF.1.iQuo k a b
theorem Za8(k:IntKind)(a b:Int):iQuo k a b=(k.wrap (a.tdiv b)):=by unfold iQuo;rw[AF.2];rfl
@[irreducible] def iRem(a b:Int):Int:=AF.1.iRem a b
theorem l7(a b:Int):iRem a b=(a.tmod b):=by unfold iRem;rw[AF.2];rfl
@[irreducible] def iAnd(k:IntKind)(a b:Int):Int:=AF.1.iAnd k a b
theorem bD(k:IntKind)(a b:Int):iAnd k a b=(k.wrap (BitVec.ofInt k.bits a &&& BitVec.ofInt k.bits b).toNat):=by unfold iAnd;rw[AF.2];rfl
@[irreducible] def iOr(k:IntKind)(a b:Int):Int:=AF.1.iOr k a b
theorem mb(k:IntKind)(a b:Int):iOr k a b=(k.wrap (BitVec.ofInt k.bits a ||| BitVec.ofInt k.bits b).toNat):=by unfold iOr;rw[AF.2];rfl
@[irreducible] def iXor(k:IntKind)(a b:Int):Int:=AF.1.iXor k a b
theorem lI(k:IntKind)(a b:Int):iXor k a b=(k.wrap (BitVec.ofInt k.bits a ^^^ BitVec.ofInt k.bits b).toNat):=by unfold iXor;rw[AF.2];rfl
@[irreducible] def iAndNot(k:IntKind)(a b:Int):Int:=AF.1.iAndNot k a b
theorem iQ(k:IntKind)(a b:Int):iAndNot k a b=(k.wrap (BitVec.ofInt k.bits a &&& ~~~BitVec.ofInt k.bits b).toNat):=by unfold iAndNot;rw[AF.2];rfl
@[irreducible] def iShl(k:IntKind)(a b:Int):Int:=AF.1.iShl k a b
theorem lu(k:IntKind)(a b:Int):iShl k a b=(k.wrap (a*2^min b.toNat k.bits)):=by unfold iShl;rw[AF.2];rfl
@[irreducible] def iShr(k:IntKind)(a b:Int):Int:=AF.1.iShr k a b
theorem lY(k:IntKind)(a b:Int):iShr k a b=(a.fdiv (2^min b.toNat k.bits)):=by unfold iShr;rw[AF.2];rfl
@[irreducible] def iNeg(k:IntKind)(a:Int):Int:=AF.1.iNeg k a
theorem ZaT(k:IntKind)(a:Int):iNeg k a=(k.wrap (0-a)):=by unfold iNeg;rw[AF.2];rfl
@[irreducible] def iConv(k:IntKind)(a:Int):Int:=AF.1.iConv k a
theorem zO(k:IntKind)(a:Int):iConv k a=(k.wrap a):=by unfold iConv;rw[AF.2];rfl
@[irreducible] def iMin(a b:Int):Int:=AF.1.iMin a b
theorem Za3(a b:Int):iMin a b=(if b<a then b else a):=by unfold iMin;rw[AF.2];rfl
@[irreducible] def iMax(a b:Int):Int:=AF.1.iMax a b
theorem cw(a b:Int):iMax a b=(if b > a then b else a):=by unfold iMax;rw[AF.2];rfl
@[irreducible] def iNat(a:Int):Nat:=AF.1.iNat a
theorem bW(a:Int):iNat a=(a.toNat):=by unfold iNat;rw[AF.2];rfl
@[irreducible] def iEq(a b:Int):Bool:=AF.1.iEq a b
theorem W9(a b:Int):iEq a b=(a == b):=by unfold iEq;rw[AF.2];rfl
@[irreducible] def iNe(a b:Int):Bool:=AF.1.iNe a b
theorem mH(a b:Int):iNe a b=(a != b):=by unfold iNe;rw[AF.2];rfl
@[irreducible] def iLt(a b:Int):Bool:=AF.1.iLt a b
theorem my(a b:Int):iLt a b=(decide (a<b)):=by unfold iLt;rw[AF.2];rfl
@[irreducible] def iLe(a b:Int):Bool:=AF.1.iLe a b
theorem mE(a b:Int):iLe a b=(decide (a<=b)):=by unfold iLe;rw[AF.2];rfl
@[irreducible] def iGt(a b:Int):Bool:=AF.1.iGt a b
theorem ma(a b:Int):iGt a b=(decide (a > b)):=by unfold iGt;rw[AF.2];rfl
@[irreducible] def iGe(a b:Int):Bool:=AF.1.iGe a b
theorem mg(a b:Int):iGe a b=(decide (a>=b)):=by unfold iGe;rw[AF.2];rfl
@[irreducible] def sAdd(a b:List UInt8):List UInt8:=AF.1.sAdd a b
theorem lS(a b:List UInt8):sAdd a b=(a++b):=by unfold sAdd;rw[AF.2];rfl
@[irreducible] def sEq(a b:List UInt8):Bool:=AF.1.sEq a b
theorem mi(a b:List UInt8):sEq a b=(a == b):=by unfold sEq;rw[AF.2];rfl
@[irreducible] def sNe(a b:List UInt8):Bool:=AF.1.sNe a b
theorem mI(a b:List UInt8):sNe a b=(!(a == b)):=by unfold sNe;rw[AF.2];rfl
@[irreducible] def sGet(s:List UInt8)(j:Int):Int:=AF.1.sGet s j
theorem Zbr(s:List UInt8)(j:Int):sGet s j=((s.getD j.toNat 0).toNat):=by unfold sGet;rw[AF.2];rfl
@[irreducible] def sRow(s:List UInt8):List Int:=AF.1.sRow s
theorem ZaY(s:List UInt8):sRow s=(s.map λ b=>((b.toNat:Nat):Int)):=by unfold sRow;rw[AF.2];rfl
@[irreducible] def rowS(l:List Int):List UInt8:=AF.1.rowS l
theorem ZaU(l:List Int):rowS l=(l.map λ n=>UInt8.ofNat n.toNat):=by unfold rowS;rw[AF.2];rfl
@[irreducible] def lLen(l:List α):Int:=AF.1.lLen l
theorem bU(l:List α):lLen l=(l.length):=by unfold lLen;rw[AF.2];rfl
@[irreducible] def lN(l:List α):Nat:=AF.1.lN l
theorem SG(l:List α):lN l=(l.length):=by unfold lN;rw[AF.2];rfl
@[irreducible] def lGet(l:List α)(j:Nat)(d:α):α:=AF.1.lGet l j d
theorem bB(l:List α)(j:Nat)(d:α):lGet l j d=(l.getD j d):=by unfold lGet;rw[AF.2];rfl
@[irreducible] def lSet(l:List α)(j:Nat)(x:α):List α:=AF.1.lSet l j x
theorem cj(l:List α)(j:Nat)(x:α):lSet l j x=(l.set j x):=by unfold lSet;rw[AF.2];rfl
@[irreducible] def lSub(l:List α)(a b:Nat):List α:=AF.1.lSub l a b
theorem bI(l:List α)(a b:Nat):lSub l a b=((l.drop a).take (b-a)):=by unfold lSub;rw[AF.2];rfl
@[irreducible] def lTake(l:List α)(n:Nat):List α:=AF.1.lTake l n
theorem bu(l:List α)(n:Nat):lTake l n=(l.take n):=by unfold lTake;rw[AF.2];rfl
@[irreducible] def lApp(l m:List α):List α:=AF.1.lApp l m
theorem MY(l m:List α):lApp l m=(l++m):=by unfold lApp;rw[AF.2];rfl
@[irreducible] def lRep(n:Int)(x:α):List α:=AF.1.lRep n x
theorem lr(n:Int)(x:α):lRep n x=(List.replicate n.toNat x):=by unfold lRep;rw[AF.2];rfl
@[irreducible] def bNot(a:Bool):Bool:=AF.1.bNot a
theorem Ps(a:Bool):bNot a=(!a):=by unfold bNot;rw[AF.2];rfl
@[irreducible] def bAnd(a b:Bool):Bool:=AF.1.bAnd a b
theorem cy(a b:Bool):bAnd a b=(a&&b):=by unfold bAnd;rw[AF.2];rfl
@[irreducible] def bOr(a b:Bool):Bool:=AF.1.bOr a b
theorem mJ(a b:Bool):bOr a b=(a||b):=by unfold bOr;rw[AF.2];rfl
@[irreducible] def bIff(a b:Bool):Bool:=AF.1.bIff a b
theorem kV(a b:Bool):bIff a b=(a == b):=by unfold bIff;rw[AF.2];rfl
@[irreducible] def bSel(c:Bool)(x y:α):α:=AF.1.bSel c x y
theorem cg(c:Bool)(x y:α):bSel c x y=(bif c then x else y):=by unfold bSel;rw[AF.2];rfl
end
mutual
inductive CT where
 |int (k:IntKind)|bool|str|ifc|sl (r:RT)|slf (r:RT)
inductive RT where
 |one (t:CT)|cons (t:CT) (r:RT)
end
abbrev BV:RT:=.cons (.int .i64) (.cons (.int .i64) (.one (.int .i64)))
abbrev BS:RT:=.cons (.int .i64) (.cons (.int .i64) (.cons (.int .i64) (.one (.int .i64))))
abbrev BE:RT:=.cons (.int .i64) (.cons (.int .i64) (.cons (.int .i64) (.cons (.int .i64) (.one (.int .i64)))))
mutual
def CT.D:CT->Type
 |.int _=>Int
 |.bool=>Bool
 |.str=>List UInt8
 |.ifc=>Bool
 |.sl r=>List r.D
 |.slf r=>List r.D
def RT.D:RT->Type
 |.one t=>t.D
 |.cons t r=>t.D×r.D
end
def RT.w:RT->Nat
 |.one _=>1
 |.cons _ r=>r.w+1
def CT.dflt:(t:CT)->t.D
 |.int _=>(0:Int)
 |.bool=>false
 |.str=>([]:List UInt8)
 |.ifc=>true
 |.sl r=>([]:List r.D)
 |.slf r=>([]:List r.D)
def RT.dflt:(r:RT)->r.D
 |.one t=>t.dflt
 |.cons t r=>(t.dflt,r.dflt)
mutual
def CT.beq:CT->CT->Bool
 |.int k,.int k'=>decide (k=k')
 |.bool,.bool=>true
 |.str,.str=>true
 |.ifc,.ifc=>true
 |.sl r,.sl r'=>RT.beq r r'
 |.slf r,.slf r'=>RT.beq r r'
 |_,_=>false
def RT.beq:RT->RT->Bool
 |.one t,.one t'=>CT.beq t t'
 |.cons t r,.cons t' r'=>CT.beq t t'&&RT.beq r r'
 |_,_=>false
end
mutual
theorem CT.beq_eq:∀ {a b:CT},CT.beq a b=true->a=b
 |.int k,.int k',h=>by simp only[CT.beq,Ap] at h;rw[h]
 |.bool,.bool,_=>rfl
 |.str,.str,_=>rfl
 |.ifc,.ifc,_=>rfl
 |.sl r,.sl r',h=>by rw[RT.beq_eq (a:=r) (b:=r') h]
 |.slf r,.slf r',h=>by rw[RT.beq_eq (a:=r) (b:=r') h]
 |.int _,.bool,h|.int _,.str,h|.int _,.ifc,h|.int _,.sl _,h|.int _,.slf _,h=>by cases h
 |.bool,.int _,h|.bool,.str,h|.bool,.ifc,h|.bool,.sl _,h|.bool,.slf _,h=>by cases h
 |.str,.int _,h|.str,.bool,h|.str,.ifc,h|.str,.sl _,h|.str,.slf _,h=>by cases h
 |.ifc,.int _,h|.ifc,.bool,h|.ifc,.str,h|.ifc,.sl _,h|.ifc,.slf _,h=>by cases h
 |.sl _,.int _,h|.sl _,.bool,h|.sl _,.str,h|.sl _,.ifc,h|.sl _,.slf _,h=>by cases h
 |.slf _,.int _,h|.slf _,.bool,h|.slf _,.str,h|.slf _,.ifc,h|.slf _,.sl _,h=>by cases h
theorem RT.beq_eq:∀ {a b:RT},RT.beq a b=true->a=b
 |.one t,.one t',h=>by rw[CT.beq_eq (a:=t) (b:=t') h]
 | .cons t r,.cons t' r',h=>by
   simp only[RT.beq,Ah] at h
   rw[CT.beq_eq h.1,RT.beq_eq h.2]
 |.one _,.cons _ _,h=>by cases h
 |.cons _ _,.one _,h=>by cases h
end
def LX{r' r:RT}(l:List r'.D):Option (List r.D):=if h:RT.beq r' r=true then some ((congrArg (λ x:RT=>List x.D) (RT.beq_eq h)).mp l) else none
inductive BX where
 |lit (b:Bool)|dyn (b:Bool)
def BX.b:BX->Bool
 |.lit b=>b
 |.dyn b=>b
inductive DV where
 |any
 |undef
 |bool (b:BX)
 |int (k:IntKind) (n:Int)
 |str (s:List UInt8)
 |ifc (b:Bool)
 |nil (q:Ql)
 |sl (q:Ql) (r:RT) (l:List r.D)
 |ep (q:Ql) (r:RT) (l:List r.D) (j o:Nat)
 |box (i o:Nat)
 |ptr (i o:Nat)
 |agg (cs:List DV)
 |tup (vs:List DV)
 deriving Inhabited
mutual
def CT.enc:(t:CT)->t.D->PV
 |.int k,n=>.fl (.int k n)
 |.bool,b=>.fl (.bool b)
 |.str,s=>.fl (.str s)
 |.ifc,b=>.fl (.ifc b)
 |.sl r,l=>.sl .own (l.map (RT.enc r))
 |.slf r,l=>.sl .frz (l.map (RT.enc r))
def RT.enc:(r:RT)->r.D->List PV
 |.one t,x=>[CT.enc t x]
 |.cons t r,x=>CT.enc t x.1::RT.enc r x.2
end
mutual
def DV.enc:DV->PV
 |.any=>.fl .undef
 |.undef=>.fl .undef
 |.bool b=>.fl (.bool b.b)
 |.int k n=>.fl (.int k n)
 |.str s=>.fl (.str s)
 |.ifc b=>.fl (.ifc b)
 |.nil q=>.sl q []
 |.sl q r l=>.sl q (l.map r.enc)
 |.ep q r l j o=>.ep q (l.map r.enc) j o
 |.box i o=>.box i o
 |.ptr i o=>.ptr i o
 |.agg cs=>.agg (DV.encL cs)
 |.tup vs=>.tup (DV.encL vs)
def DV.encL:List DV->List PV
 |[]=>[]
 |v::r=>v.enc::DV.encL r
end
def CT.dv(q:Ql):(t:CT)->t.D->DV
 |.int k,n=>.int k n
 |.bool,b=>.bool (.dyn b)
 |.str,s=>.str s
 |.ifc,b=>.ifc b
 |.sl r,l=>.sl q r l
 |.slf r,l=>.sl .frz r l
def RT.dv(q:Ql):(r:RT)->r.D->List DV
 |.one t,x=>[CT.dv q t x]
 |.cons t r,x=>CT.dv q t x.1::RT.dv q r x.2
def CT.of:(t:CT)->DV->Option t.D
 |.int k,.int k' n=>if k=k' then some n else none
 |.bool,.bool b=>some b.b
 |.str,.str s=>some s
 |.ifc,.ifc b=>some b
 |.sl r,.nil .own=>some ([]:List r.D)
 |.sl r,.sl .own r' l=>LX (r':=r') (r:=r) l
 |.slf r,.nil .frz=>some ([]:List r.D)
 |.slf r,.sl .frz r' l=>LX (r':=r') (r:=r) l
 |_,_=>none
def RT.of:(r:RT)->List DV->Option r.D
 |.one t,[v]=>t.of v
 | .cons t r,v::vs=>(match t.of v,r.of vs with
   |some x,some y=>some (x,y)
   |_,_=>none)
 |_,_=>none
def DV.ty:DV->Option CT
 |.int k _=>some (.int k)
 |.bool _=>some .bool
 |.str _=>some .str
 |.ifc _=>some .ifc
 |.sl _ r _=>some (.sl r)
 |_=>none
def dr:List DV->Option RT
 |[]=>none
 |[v]=>v.ty.map .one
 | v::r=>(match v.ty,dr r with
   |some t,some r=>some (.cons t r)
   |_,_=>none)
mutual
def CT.pl:CT->Bool
 |.sl r=>r.pl
 |.slf _=>false
 |_=>true
def RT.pl:RT->Bool
 |.one t=>t.pl
 |.cons t r=>t.pl&&r.pl
end
mutual
def CT.nrm:CT->CT
 |.sl r=>.sl r.nrm
 |.slf r=>.sl r.nrm
 |t=>t
def RT.nrm:RT->RT
 |.one t=>.one t.nrm
 |.cons t r=>.cons t.nrm r.nrm
end
mutual
theorem CT.D_nrm:∀ t:CT,t.nrm.D=t.D
 |.int _|.bool|.str|.ifc=>rfl
 |.sl r=>congrArg List (RT.D_nrm r)
 |.slf r=>congrArg List (RT.D_nrm r)
theorem RT.D_nrm:∀ r:RT,r.nrm.D=r.D
 |.one t=>CT.D_nrm t
 | .cons t r=>by
   show (t.nrm.D×r.nrm.D)=(t.D×r.D)
   rw[CT.D_nrm t,RT.D_nrm r]
end
def Xu(r:RT)(l:List r.D):List r.nrm.D:=(congrArg List (RT.D_nrm r).symm).mp l
def DV.nrm1:DV->DV
 |.sl .frz r l=>if r.pl then .sl .frz r l else .sl .frz r.nrm (Xu r l)
 |v=>v
def DV.nrmA:List DV->List DV
 |[]=>[]
 |v::r=>v.nrm1::DV.nrmA r
def DV.nrm:DV->DV
 |.agg cs=>.agg (DV.nrmA cs)
 |v=>v.nrm1
def DV.nrmV:List DV->List DV
 |[]=>[]
 |v::r=>v.nrm::DV.nrmV r
def DV.cells:DV->List DV
 |.agg cs=>cs
 |v=>[v]
def Ql.own':Ql->Bool
 |.own|.ownw _=>true
 |_=>false
def Ql.bor' (hd:Hd):Ql->Bool
 |.bor h _ _=>h == hd
 |.pre h _=>h == hd
 |_=>false
mutual
def DV.own:DV->Bool
 |.nil q=>q.own'
 |.sl q _ _=>q.own'
 |.agg cs=>DV.ownL cs
 |.tup vs=>DV.ownL vs
 |_=>false
def DV.ownL:List DV->Bool
 |[]=>false
 |v::r=>v.own||DV.ownL r
end
mutual
def DV.bor(hd:Hd):DV->Bool
 |.nil q=>q.bor' hd
 |.sl q _ _=>q.bor' hd
 |.ep q _ _ _ _=>q.bor' hd
 |.agg cs=>DV.borL hd cs
 |.tup vs=>DV.borL hd vs
 |_=>false
def DV.borL(hd:Hd):List DV->Bool
 |[]=>false
 |v::r=>v.bor hd||DV.borL hd r
end
mutual
def DV.hold:DV->Bool
 |.nil q=>(match q with|.frz=>false|_=>true)
 |.sl q _ _=>(match q with|.frz=>false|_=>true)
 |.ep q _ _ _ _=>(match q with|.frz=>false|_=>true)
 |.agg cs=>DV.holdL cs
 |.tup vs=>DV.holdL vs
 |_=>false
def DV.holdL:List DV->Bool
 |[]=>false
 |v::r=>v.hold||DV.holdL r
end
mutual
def DV.fz:DV->DV
 |.nil _=>.nil .frz
 |.sl _ r l=>.sl .frz r l
 |.ep _ r l j o=>.ep .frz r l j o
 |.agg cs=>.agg (DV.fzL cs)
 |.tup vs=>.tup (DV.fzL vs)
 |v=>v
def DV.fzL:List DV->List DV
 |[]=>[]
 |v::r=>v.fz::DV.fzL r
end
def Ql.detop:Ql->Ql
 |.bor h p _=>.bor h p false
 |.pre h p=>.bor h p false
 |q=>q
mutual
def DV.detop:DV->DV
 |.nil q=>.nil q.detop
 |.sl q r l=>.sl q.detop r l
 |.ep q r l j o=>.ep q.detop r l j o
 |.agg cs=>.agg (DV.detopL cs)
 |.tup vs=>.tup (DV.detopL vs)
 |v=>v
def DV.detopL:List DV->List DV
 |[]=>[]
 |v::r=>v.detop::DV.detopL r
end
mutual
def DV.hasPtr:DV->Bool
 |.ptr _ _=>true
 |.agg cs=>DV.hasPtrL cs
 |.tup vs=>DV.hasPtrL vs
 |_=>false
def DV.hasPtrL:List DV->Bool
 |[]=>false
 |v::r=>v.hasPtr||DV.hasPtrL r
end
mutual
def DV.deep:DV->Bool
 |.undef|.bool _|.int _ _|.str _|.ifc _=>true
 |.nil q=>q.own'
 |.sl q r _=>q.own'&&r.pl
 |.agg cs=>DV.deepL cs
 |.tup vs=>DV.deepL vs
 |.ptr _ _=>true
 |_=>false
def DV.deepL:List DV->Bool
 |[]=>true
 |v::r=>v.deep&&DV.deepL r
end
def DV.cell:DV->Bool
 |.bool _|.int _ _|.str _|.ifc _=>true
 |.nil q=>(match q with|.own|.frz|.ownw _=>true|_=>false)
 |.sl q _ _=>(match q with|.own|.frz|.ownw _=>true|_=>false)
 |_=>false
def DU:List DV->Bool
 |[]=>true
 |v::r=>v.cell&&DU r
def DV.argc:DV->Bool
 |.bool _|.int _ _|.str _|.ifc _|.nil _|.sl _ _ _|.ptr _ _=>true
 |_=>false
def Xb:List DV->Bool
 |[]=>true
 |v::r=>v.argc&&Xb r
def DV.argok:DV->Bool
 |.agg cs=>Xb cs
 |v=>v.argc
def Ih:List DV->Bool
 |[]=>true
 |v::r=>v.argok&&Ih r
def DV.retc:DV->Bool
 |.ptr _ _=>true
 |v=>v.cell
def JB:List DV->Bool
 |[]=>true
 |v::r=>v.retc&&JB r
def DV.retok:DV->Bool
 |.agg cs=>JB cs
 |v=>v.retc
def CT.flat:CT->Bool
 |.sl _=>false
 |.slf _=>false
 |_=>true
def RT.flat:RT->Bool
 |.one t=>t.flat
 |.cons t r=>t.flat&&r.flat
structure DC where
 d:Bool
 v:DV
structure DS where
 sl:List DC
 bx:List (List DC)
 hp:List (List DC)
def Bq:List DC->Nat->DV
 |[],_=>.any
 |x::_,0=>x.v
 |_::r,n+1=>Bq r n
def DX:List DC->Nat->DV->List DC
 |[],_,_=>[]
 |_::r,0,v=>⟨true,v⟩::r
 |x::r,n+1,v=>x::DX r n v
def BH:List (List DC)->Nat->List DC
 |[],_=>[]
 |x::_,0=>x
 |_::r,n+1=>BH r n
def E7:List (List DC)->Nat->List DC->List (List DC)
 |[],_,_=>[]
 |_::r,0,v=>v::r
 |x::r,n+1,v=>x::E7 r n v
def Jk:List DC->Nat->List DV->List DC
 |cs,_,[]=>cs
 |[],_,_::_=>[]
 |_::r,0,v::vs=>⟨true,v⟩::Jk r 0 vs
 |c::r,n+1,v::vs=>c::Jk r n (v::vs)
def LC:List DV->Nat->List DV->List DV
 |cs,_,[]=>cs
 |[],_,_::_=>[]
 |_::r,0,v::vs=>v::LC r 0 vs
 |c::r,n+1,v::vs=>c::LC r n (v::vs)
def Ha:List DV->Nat->DV
 |[],_=>.any
 |x::_,0=>x
 |_::r,n+1=>Ha r n
def PT:List DV->Nat->DV->List DV
 |[],_,_=>[]
 |_::r,0,v=>v::r
 |x::r,n+1,v=>x::PT r n v
def Ce:List DV->Nat->Nat->List DV
 |_,0,0=>[]
 |[],_,_=>[]
 |c::r,0,n+1=>c::Ce r 0 n
 |_::r,o+1,n=>Ce r o n
def BO:List DC->List DV
 |[]=>[]
 |c::r=>c.v::BO r
def news:List DV->List DC
 |[]=>[]
 |v::r=>⟨true,v⟩::news r
def Dw(hd:Hd):List DC->List DC
 |[]=>[]
 |c::r=>(if c.v.bor hd then ⟨true,.any⟩ else c)::Dw hd r
def DV.isBox(i:Nat):DV->Bool
 |.box j _=>i == j
 |_=>false
def Q8(i:Nat):List DC->List DC
 |[]=>[]
 |c::r=>(if c.v.isBox i then ⟨true,.any⟩ else c)::Q8 i r
def Xc(live:List Nat):Nat->List DC->List DC
 |_,[]=>[]
 |n,c::r=>(if live.contains n then c else ⟨true,.any⟩)::Xc live (n+1) r
def clean:List DC->List DC
 |[]=>[]
 |c::r=>⟨false,c.v⟩::clean r
def Po:List (List DC)->List (List DC)
 |[]=>[]
 |b::r=>clean b::Po r
def DS.clean(st:DS):DS:=⟨Go.Ag.clean st.sl,Po st.bx,Po st.hp⟩
def df:List DC->List PV
 |[]=>[]
 |c::r=>c.v.enc::df r
def dh:List (List DC)->List (List PV)
 |[]=>[]
 |b::r=>df b::dh r
def DS.enc(st:DS):PS:=⟨df st.sl,dh st.bx,dh st.hp⟩
inductive PX where
 |tt|ff|p (h:Prop)|and (a b:PX)|ite (c:Bool) (a b:PX)
def PX.den:PX->Prop
 |.tt=>True
 |.ff=>False
 |.p h=>h
 |.and a b=>a.den/\b.den
 |.ite c a b=>(c=true->a.den)/\(c=false->b.den)
def PX.land:PX->PX->PX
 |.tt,b=>b
 |.ff,_=>.ff
 |a,.tt=>a
 |a,b=>.and a b
def PX.if' (c:Bool):PX->PX->PX
 |.tt,.tt=>.tt
 |a,b=>.ite c a b
def JG:V->DV
 |.nils=>.nil .own
 |.tup []=>.tup []
 |.bool b=>.bool (.lit b)
 |.int k n=>.int k n
 |.str s=>.str s
 |.ifc b=>.ifc b
 |_=>.undef
def Hb:List V->List DV
 |[]=>[]
 |v::r=>JG v::Hb r
def Opnd.dev(s:List DC):Opnd->DV
 |.t n=>Bq s n
 |.c v=>JG v
end
abbrev dj:=List UInt8
abbrev A5:=List Int
abbrev A0:=Int×Int
abbrev L6:=Bool×Int
abbrev CR:=Int×A0
abbrev Eh:=A5×Int
abbrev Dt:=Int×A5
abbrev Nl:=List A0
abbrev CI:=Int×CR
abbrev mK:=A5×A5
abbrev CU:=List CR
abbrev ZbC:=Int×Dt
abbrev CB:=A5×A0
abbrev E3:=List Dt
abbrev E0:=Int×CI
abbrev G5:=List CI
abbrev Df:=List CU
abbrev IG:=Nl×Int
abbrev Bv:=List E0
abbrev DW:=List G5
abbrev mD:=Nl×A0
abbrev Cw:=CB×Int
abbrev Xq:=Df×Int
abbrev Si:=Dt×Dt
abbrev mf:=CB×A5
abbrev G8:=Bv×Int
abbrev Xl:=Int×Bv
abbrev CV:=Int×DW
abbrev Se:=Dt×Nl
abbrev Zb1:=CI×CI
abbrev Jw:=Dt×E3
abbrev LS:=E3×ZbC
abbrev mx:=Bv×CR
abbrev Ng:=Int×DW×A0
abbrev Jx:=CV×A0
abbrev Jv:=Bv×CU
abbrev G7:=Bv×Bv
abbrev Xd:=CV×Df
abbrev B8:=Int×DW×Df×Int×Bv×Int×Bool
abbrev HJ:=B8×Int
abbrev E6:=B8×Int×Bool
abbrev LR:=Int×Int×DW×Df×Int×Bv×Int×Bool×A0
abbrev Nf:=Int×Int×A5×B8
abbrev me:=CB×B8
abbrev Xp:=CB×HJ
abbrev PD:=B8×Zb1
abbrev Ab:V:=.int .i64 0
abbrev Zct:V:=.int .i64 1
abbrev CW:V:=.bool false
abbrev Zcv:V:=.bool true
abbrev AE:Opnd:=.c Ab
abbrev Av:Opnd:=.c Zct
abbrev Ar:Opnd:=.c CW
abbrev A7:Opnd:=.c Zcv
abbrev Au:Ql×CT:=(.own,.int .i64)
abbrev AD:Ql×CT:=(.frz,.int .i64)
noncomputable section
mutual
def DV.ok:DV->Bool
 |.any=>false
 |.agg cs=>DV.okL cs
 |.tup vs=>DV.okL vs
 |_=>true
def DV.okL:List DV->Bool
 |[]=>true
 |v::r=>v.ok&&DV.okL r
end
def DS.put(st:DS)(d:Option Nat)(v:DV):DS:=
 match d with
 |none=>st
 |some d=>if v.own then { st with sl:=Dw (.s d) (DX st.sl d v) } else { st with sl:=DX st.sl d v }
def SM(v:DV)(n:Nat)(st:DS):DV×DS:=if v.own then (if v.bor (.s n) then (.any,st) else (v,{ st with sl:=Dw (.s n) (DX st.sl n .any) })) else (v,st)
def Bo(x:Opnd)(st:DS):DV×DS:=match x with
 |.c v=>(JG v,st)
 |.t n=>SM (Bq st.sl n) n st
def SI(v:DV)(n:Nat)(st:DS):DV×DS:=if v.own then (if v.retok then (v.fz,{ st with sl:=Dw (.s n) (DX st.sl n v.fz) }) else (.any,st)) else (v,st)
def Fs(x:Opnd)(st:DS):DV×DS:=match x with
 |.c v=>(JG v,st)
 |.t n=>SI (Bq st.sl n) n st
def DV.fcell:DV->List Nat->DV
 |.agg cs,[c]=>Ha cs c
 |.agg _,_=>.any
 |.tup vs,[i,c]=>Ha (Ha vs i).cells c
 |.tup _,_=>.any
 |v,[0]=>v
 |_,_=>.any
def DV.setc:DV->List Nat->DV->DV
 |.agg cs,[c],w=>.agg (PT cs c w)
 |.agg cs,_,_=>.agg cs
 |.tup vs,_,_=>.tup vs
 |_,[0],w=>w
 |v,_,_=>v
def CH(st:DS):Hd->List Nat->DV
 |.s t,p=>(Bq st.sl t).fcell p
 |.b i,[c]=>Bq (BH st.bx i) c
 |.h i,[c]=>Bq (BH st.hp i) c
 |_,_=>.any
def HI(st:DS)(v:DV):Hd->List Nat->DS
 |.s t,p=>{ st with sl:=Dw (.s t) (DX st.sl t ((Bq st.sl t).setc p v)) }
 |.b i,[c]=>{ st with sl:=Dw (.b i) st.sl,bx:=E7 st.bx i (DX (BH st.bx i) c v) }
 |.h i,[c]=>{ st with sl:=Dw (.h i) st.sl,hp:=E7 st.hp i (DX (BH st.hp i) c v) }
 |_,_=>st
def Ql.brw(hd:Hd)(p:List Nat):Ql->Ql
 |.own=>.bor hd p true
 |.ownw _=>.pre hd p
 |q=>q
def cG(hd:Hd)(p:List Nat):DV->DV
 |.sl q r l=>.sl (q.brw hd p) r l
 |.nil q=>.nil (q.brw hd p)
 |v=>v
def Ju(hd:Hd):Nat->List DV->List DV
 |_,[]=>[]
 |c,v::r=>cG hd [c] v::Ju hd (c+1) r
def cY(hd:Hd):DV->DV
 |.agg cs=>.agg (Ju hd 0 cs)
 |.tup vs=>if DV.ownL vs then .undef else .tup vs
 |v=>cG hd [0] v
def KF(x:Opnd)(st:DS):DV×DS:=match x with
 |.c v=>(JG v,st)
 |.t n=>(cY (.s n) (Bq st.sl n),st)
def Nn:Ql->Option Ql
 |.frz=>some .frz
 |.bor hd _ _=>some (.bor hd [] false)
 |.pre hd _=>some (.bor hd [] false)
 |_=>none
def PC:List DV->List DV
 |[]=>[]
 |v::r=>(if v.own then .any else v)::PC r
def FW(n:Option Nat)(cs:List DV):Option DV:=
 match n,cs with
 |some _,cs=>some (.agg cs)
 |none,[v]=>some v
 |none,_=>none
def IA(d:Nat):Option DV->Option (PX×Nat)
 |none=>some (.tt,d)
 |some (.int _ i)=>some (.p (0<=i),iNat i)
 |some _=>none
def Jy:List DV->List (Nat×Nat×Opnd)->DS->Option (List DV×DS)
 |cs,[],st=>some (cs,st)
 | cs,(off,size,x)::r,st=>
   if (Bo x st).1.cells.length == size&&Nat.ble (off+size) cs.length&&DU (Bo x st).1.cells then Jy (LC cs off (Bo x st).1.cells) r (Bo x st).2 else none
abbrev DO:=Option (PX×DV)
def FG(v:DV):DO:=some (.tt,v)
def dI(k:IntKind)(n:Int):DO:=some (.tt,.int k n)
def dB(b:Bool):DO:=some (.tt,.bool (.dyn b))
def Wj(op:BinOp)(k:IntKind)(a b:Int):DO:=
 match op with
 |.add=>dI k (iAdd k a b)
 |.sub=>dI k (iSub k a b)
 |.mul=>dI k (iMul k a b)
 |.quo=>some (.p (b≠0),.int k (iQuo k a b))
 |.rem=>some (.p (b≠0),.int k (iRem a b))
 |.and=>dI k (iAnd k a b)
 |.or=>dI k (iOr k a b)
 |.xor=>dI k (iXor k a b)
 |.andNot=>dI k (iAndNot k a b)
 |.eql=>dB (iEq a b)
 |.neq=>dB (iNe a b)
 |.lss=>dB (iLt a b)
 |.leq=>dB (iLe a b)
 |.gtr=>dB (iGt a b)
 |.geq=>dB (iGe a b)
 |_=>none
def WG(op:BinOp)(k:IntKind)(a b:Int):DO:=
 match op with
 |.shl=>some (.p (0<=b),.int k (iShl k a b))
 |.shr=>some (.p (0<=b),.int k (iShr k a b))
 |_=>none
def IntKind.same(k k':IntKind):Bool:=decide (k=k')
def PN(op:BinOp)(x y:DV):DO:=
 match x,y with
 | .int k a,.int k' b=>(match op with
   |.shl=>WG .shl k a b
   |.shr=>WG .shr k a b
   |op=>if IntKind.same k k' then Wj op k a b else none)
 | .str a,.str b=>(match op with
   |.add=>some (.p (a.length+b.length<=9223372036854775807),.str (sAdd a b))
   |.eql=>dB (sEq a b)
   |.neq=>dB (sNe a b)
   |_=>none)
 |_,_=>none
def BX.not:BX->BX
 |.lit b=>.lit (!b)
 |.dyn b=>.dyn (bNot b)
def BX.eq:BX->BX->BX
 |.lit a,.lit b=>.lit (a == b)
 |.lit true,.dyn b=>.dyn b
 |.lit false,.dyn b=>.dyn (bNot b)
 |.dyn a,.lit true=>.dyn a
 |.dyn a,.lit false=>.dyn (bNot a)
 |.dyn a,.dyn b=>.dyn (bIff a b)
def Xz(neg:Bool):DV->DV->DO
 |.bool a,.bool b=>FG (.bool (if neg then (a.eq b).not else a.eq b))
 |_,_=>none
def di(neg:Bool):DV->DO
 |.ifc a=>dB (if neg then bNot a else a)
 |_=>none
def Lz:List DV->List DV->Option BX
 |[],[]=>some (.lit true)
 |.int k a::x,.int k' b::y=>if IntKind.same k k' then (match x,y with
  |[],[]=>some (.dyn (iEq a b))
  |x,y=>(Lz x y).map λ t=>.dyn (bAnd (iEq a b) t.b)) else none
 |_,_=>none
def Xw(n:Nat)(neg:Bool):DV->DV->DO
 | .agg a,.agg b=>if a.length == n&&b.length == n then (match Lz a b with
   |some t=>FG (.bool (if neg then t.not else t))
   |none=>none) else none
 |_,_=>none
def dt(op:UnOp)(x:DV):DO:=
 match op,x with
 |.not,.bool b=>FG (.bool b.not)
 |.neg,.int k n=>dI k (iNeg k n)
 |_,_=>none
def cW(k:IntKind):DV->DO
 |.int _ n=>dI k (iConv k n)
 |_=>none
def WL:(r:RT)->List r.D->Option (List UInt8)
 |.one (.int .u8),l=>some (rowS l)
 |_,_=>none
def cU:DV->DO
 |.nil _=>FG (.str [])
 |.sl _ r l=>(WL r l).map λ s=>(.tt,.str s)
 |_=>none
def mU(x:Opnd)(z:Bool)(q:Ql):Option Ql:=FE x (if z then 0 else 1) q
def bS(w:Nat)(x:Opnd)(lo hi:Option DV):DV->DO
 | .sl q r l=>(match IA 0 lo,IA (lN l) hi with
   | some (g,a),some (g',b)=>if r.w == w then (match mU x lo.isNone q with
     |some q'=>some ((g.land g').land (.p (a<=b/\b<=l.length/\0<l.length)),.sl q' r (lSub l a b))
     |none=>none) else none
   |_,_=>none)
 |_=>none
def aS(lo hi:Option DV):DV->DO
 | .str t=>(match IA 0 lo,IA (lN t) hi with
   |some (g,a),some (g',b)=>some ((g.land g').land (.p (a<=b/\b<=t.length)),.str (lSub t a b))
   |_,_=>none)
 |_=>none
def bE:DV->DO
 |.box i o=>FG (.box i o)
 |.ptr i o=>FG (.ptr i o)
 |.ep q r l j o=>FG (.ep q r l j o)
 |_=>none
def aV(off:Nat):DV->DO
 |.box i o=>FG (.box i (o+off))
 |.ptr i o=>FG (.ptr i (o+off))
 |.ep q r l j o=>FG (.ep q r l j (o+off))
 |_=>none
def ck(off:Nat)(n:Option Nat)(x:Opnd):DV->DO
 | .agg cs=>(match x with
   |.t t=>if Nat.ble (off+n.getD 1) cs.length&&DV.okL (Ce cs off (n.getD 1)) then (FW n (Ju (.s t) off (Ce cs off (n.getD 1)))).map λ v=>(.tt,v) else none
   |.c _=>none)
 |_=>none
def Rs(w:Nat)(x:Opnd):DV->DV->DO
 | .sl q r l,.int _ j=>if r.w == w then (match Fx x q with
   |some q'=>some (.p (0<=j/\j<l.length),.ep q' r l (iNat j) 0)
   |none=>none) else none
 |.nil _,.int _ _=>none
 |_,_=>none
def WZ:DV->DV->DO
 |.str t,.int _ j=>some (.p (0<=j/\j<t.length),.int .u8 (sGet t j))
 |_,_=>none
def dc:DV->DO
 |.sl _ _ l=>dI .i64 (lLen l)
 |.nil _=>dI .i64 0
 |_=>none
def cD:DV->DO
 |.str t=>dI .i64 (lLen t)
 |_=>none
def dk:DV->DV->DO
 |.int .i64 a,.int .i64 b=>dI .i64 (iMin a b)
 |_,_=>none
def c9:DV->DV->DO
 |.int .i64 a,.int .i64 b=>dI .i64 (iMax a b)
 |_,_=>none
abbrev Ez:=Option (PX×DV×DS)
def LP(m:Bool)(i:Nat)(n:Option Nat)(a:DV)(st:DS):Ez:=
 match a with
 | .box j o=>
   let cs:=Ce (BO (BH st.bx i)) o (n.getD 1)
   if i == j&&Nat.ble (o+n.getD 1) (BH st.bx i).length&&DV.okL cs then
    if m then (FW n cs).map λ v=>(.tt,v,{ st with sl:=Dw (.b i) st.sl,bx:=E7 st.bx i (Jk (BH st.bx i) o (PC cs)) })
    else (FW n (Ju (.b i) o cs)).map λ v=>(.tt,v,st)
   else none
 |_=>none
def KL(m:Bool)(n:Option Nat)(a:DV)(st:DS):Ez:=
 match a with
 | .ptr i o=>
   let cs:=Ce (BO (BH st.hp i)) o (n.getD 1)
   if Nat.blt i st.hp.length&&Nat.ble (o+n.getD 1) (BH st.hp i).length&&DV.okL cs then
    if m then (FW n cs).map λ v=>(.tt,v,{ st with sl:=Dw (.h i) st.sl,hp:=E7 st.hp i (Jk (BH st.hp i) o (PC cs)) })
    else (FW n (Ju (.h i) o cs)).map λ v=>(.tt,v,st)
   else none
 | .ep q r l j o=>(match Nn q with
   |some q'=>if Nat.ble (o+n.getD 1) r.w then (FW n (Ce (r.dv q' (lGet l j r.dflt)) o (n.getD 1))).map λ v=>(.p (j<l.length),v,st) else none
   |none=>none)
 |_=>none
def RD(i n:Nat)(a x:Opnd)(st0:DS):Ez:=
 match Bo x st0 with
 | (v, st)=>match a.dev st0.sl with
   |.box j o=>if i == j&&Nat.blt i st.bx.length&&v.cells.length == n&&Nat.ble (o+n) (BH st.bx i).length&&DU v.cells then
    some (.tt,.undef,{ st with sl:=if (!DV.okL (Ce (BO (BH st.bx i)) o n))||DV.ownL (Ce (BO (BH st.bx i)) o n)||v.own then Dw (.b i) st.sl else st.sl,bx:=E7 st.bx i (Jk (BH st.bx i) o v.cells) }) else none
   |_=>none
def RE(n:Nat)(a x:Opnd)(st0:DS):Ez:=
 match Bo x st0 with
 | (v, st)=>match a.dev st.sl with
   |.ptr i o=>if Nat.blt i st.hp.length&&v.cells.length == n&&Nat.ble (o+n) (BH st.hp i).length&&DU v.cells then
    some (.tt,.undef,{ st with sl:=if (!DV.okL (Ce (BO (BH st.hp i)) o n))||DV.ownL (Ce (BO (BH st.hp i)) o n)||v.own then Dw (.h i) st.sl else st.sl,hp:=E7 st.hp i (Jk (BH st.hp i) o v.cells) }) else none
   | .ep (.bor hd [p] true) _ _ j o=>(match CH st hd [p] with
     | .sl .own r l=>if v.cells.length == n&&Nat.ble (o+n) r.w&&DU v.cells then (match r.of (LC (r.dv .own (lGet l j r.dflt)) o v.cells) with
       |some y=>some (.p (j<l.length),.undef,HI st (.sl .own r (lSet l j y)) hd [p])
       |none=>none) else none
     |_=>none)
   |_=>none
def MU(_:Bool)(_:Option Nat)(_:DV)(_:DS):Option Ez:=none
def DV.nestX(i c:Nat):DV->Bool
 |.ep (.bor (.b i') [c'] true) _ _ _ _=>i == i'&&c == c'
 |_=>false
def DV.nest(_:DV):Option (Hd×Nat×Nat×Nat×Nat):=none
def aQ(_:Nat)(_:Hd)(_ _ _ _:Nat)(_:DV)(_:DS):Ez:=none
inductive DSrc where
 |nil
 |sl (r:RT) (l:List r.D)
def DSrc.w:DSrc->Nat->Bool
 |.nil,_=>true
 |.sl r _,w=>r.w == w
def DSrc.to(r:RT):DSrc->Option (List r.D)
 |.nil=>some []
 |.sl _ l=>LX l
def JH(w:Nat)(y:Opnd)(st:DS):Option (DSrc×DS):=
 match y.dev st.sl with
 |.str s=>if w == 1 then some (.sl (.one (.int .u8)) (sRow s),st) else none
 |.sl .own r l=>if r.w == w then some (.sl r l,(Bo y st).2) else none
 |.sl (.ownw _) _ _=>none
 |.sl _ r l=>if r.w == w&&r.flat then some (.sl r l,st) else none
 |.nil .own=>some (.nil,(Bo y st).2)
 |.nil _=>some (.nil,st)
 |_=>none
def Me(w:Nat)(x:Opnd)(new:DSrc)(st:DS):Ez:=
 if !(Nat.blt 0 w&&new.w w) then none else
 match x.dev st.sl with
 | .nil .own=>(match new with
   |.nil=>some (.tt,.nil .own,(Bo x st).2)
   |.sl r l=>some (.p (As (l.length*w)),.sl .own r l,(Bo x st).2))
 | .sl .own r l=>if r.w == w then (match new.to r with
   |some n=>some (.p (As ((l.length+n.length)*w)),.sl .own r (lApp l n),(Bo x st).2)
   |none=>none) else none
 | .sl (.bor hd [c] true) r l=>(match CH st hd [c] with
   | .sl .own rh lh=>if rh.w == w then (match new.to rh with
     |some n=>some (.p (l.length=lh.length/\As ((lh.length+n.length)*w)),.sl .own rh (lApp lh n),HI st .undef hd [c])
     |none=>none) else none
   |_=>none)
 | .nil (.bor hd [c] true)=>(match CH st hd [c] with
   | .nil .own=>(match new with
     |.nil=>some (.tt,.nil .own,HI st .undef hd [c])
     |.sl r l=>some (.p (As (l.length*w)),.sl .own r l,HI st .undef hd [c]))
   |_=>none)
 | .sl (.pre hd [c]) r l=>(match CH st hd [c] with
   | .sl .own rh lh=>if rh.w == w then (match new.to rh with
     |some n=>some (.p (0<lh.length/\l.length<=lh.length/\0<l.length+n.length/\As ((l.length+n.length)*w)),.sl .own rh (lApp (lTake lh (lN l)) n),HI st .undef hd [c])
     |none=>none) else none
   |_=>none)
 |_=>none
def LU(w:Nat)(new:DSrc)(st:DS):Ez:=
 match new with
 |.nil=>some (.tt,.nil (.ownw w),st)
 |.sl r l=>some (.p (As (l.length*w)),.sl (.ownw w) r l,st)
def R8(w:Nat)(x:Opnd)(new:DSrc)(st:DS):Ez:=
 if !(Nat.blt 0 w&&new.w w) then none else
 match x.dev st.sl with
 |.nil .own=>LU w new (Bo x st).2
 |.nil (.ownw w')=>if w' == w then LU w new (Bo x st).2 else none
 | .sl .own r l=>if r.w == w then (match new.to r with
   |some n=>some (.p (As ((l.length+n.length)*w)),.sl (.ownw w) r (lApp l n),(Bo x st).2)
   |none=>none) else none
 | .sl (.ownw w') r l=>if w' == w&&r.w == w then (match new.to r with
   |some n=>some (.p (As ((l.length+n.length)*w)),.sl (.ownw w) r (lApp l n),(Bo x st).2)
   |none=>none) else none
 | .sl (.pre hd [c]) r l=>(match CH st hd [c] with
   | .sl .own rh lh=>if rh.w == w then (match new.to rh with
     |some n=>some (.p (0<lh.length/\l.length<=lh.length/\As ((l.length+n.length)*w)),.sl (.ownw w) rh (lApp (lTake lh (lN l)) n),HI st .undef hd [c])
     |none=>none) else none
   | .sl (.ownw w') rh lh=>if w' == w&&rh.w == w then (match new.to rh with
     |some n=>some (.p (0<lh.length/\l.length<=lh.length/\As ((l.length+n.length)*w)),.sl (.ownw w) rh (lApp (lTake lh (lN l)) n),HI st .undef hd [c])
     |none=>none) else none
   |_=>none)
 |_=>none
def SA(w:Nat):DV->Option DV
 |.nil .own=>some (.nil (.ownw w))
 |.nil (.ownw w')=>if w' == w then some (.nil (.ownw w)) else none
 |.sl .own r l=>if r.w == w then some (.sl (.ownw w) r l) else none
 |.sl (.ownw w') r l=>if w' == w then some (.sl (.ownw w) r l) else none
 |_=>none
def Xx:List (Nat×Nat)->List DV->Option (List DV)
 |[],l=>some l
 | (c,w)::r,l=>match SA w (Ha l c) with
   |some v=>Xx r (PT l c v)
   |none=>none
def Nx(ws:List (Nat×Nat)):DV->Option DV
 |.agg l=>(Xx ws l).map .agg
 | .nil q=>(match ws with
   |[(0,w)]=>SA w (.nil q)
   |_=>none)
 | .sl q r l=>(match ws with
   |[(0,w)]=>SA w (.sl q r l)
   |_=>none)
 |_=>none
def Pj(r:RT)(w:Nat):Nat->List DV->Option (List r.D)
 |0,_=>some []
 | n+1,cs=>(match r.of (cs.take w),Pj r w n (cs.drop w) with
   |some x,some l=>some (x::l)
   |_,_=>none)
def Hu:List V->Bool
 |[]=>true
 |v::r=>v.flat&&Hu r
def PA(o:AOp)(e:Opnd->DV):DO:=
 match o with
 |.nilck x=>bE (e x)
 |.bin op x y=>PN op (e x) (e y)
 |.eqB neg x y=>Xz neg (e x) (e y)
 |.eqN neg x y=>(match y with|.c (.ifc true)=>di neg (e x)|_=>none)
 |.eqA n neg x y=>Xw n neg (e x) (e y)
 |.un op x=>dt op (e x)
 |.conv k x=>cW k (e x)
 |.bstr x=>cU (e x)
 |.slice w x lo hi=>bS w x (lo.map e) (hi.map e) (e x)
 |.substr x lo hi=>aS (lo.map e) (hi.map e) (e x)
 |.fieldA off a=>aV off (e a)
 |.field off n x=>ck off n x (e x)
 |.indexA w x i=>Rs w x (e x) (e i)
 |.index x i=>WZ (e x) (e i)
 |.len x=>dc (e x)
 |.lenT x=>cD (e x)
 |.minI x y=>dk (e x) (e y)
 |.maxI x y=>c9 (e x) (e y)
 |_=>none
def Bp (m:Bool)(o:AOp)(ty:Option RT)(st:DS):Ez:=
 let e (x:Opnd):=x.dev st.sl
 let known (r:DV×DS):Ez:=if r.1.ok then some (.tt,r.1,r.2) else none
 match o with
 |.mv x=>known (if m then KF x st else Bo x st)
 |.allocB i zs=>if Nat.blt i st.bx.length&&Hu zs then some (.tt,.box i 0,{ st with sl:=Dw (.b i) (Q8 i st.sl),bx:=E7 st.bx i (news (Hb zs)) }) else none
 | .boxB i n x=>(match Bo x st with
   |(v,st)=>if Nat.blt i st.bx.length&&v.cells.length == n&&DU v.cells then some (.tt,.box i 0,{ st with sl:=Dw (.b i) (Q8 i st.sl),bx:=E7 st.bx i (news v.cells) }) else none)
 |.allocH zs=>if Hu zs then some (.tt,.ptr st.hp.length 0,{ st with sl:=Dw (.h st.hp.length) st.sl,hp:=st.hp++[news (Hb zs)] }) else none
 | .boxH n x=>(match Bo x st with
   |(v,st)=>if v.cells.length == n&&DU v.cells then some (.tt,.ptr st.hp.length 0,{ st with sl:=Dw (.h st.hp.length) st.sl,hp:=st.hp++[news v.cells] }) else none)
 | .build zs ps=>if Hu zs then (match Jy (Hb zs) ps st with
   |some (cs,st)=>some (.tt,.agg cs,st)
   |none=>none) else none
 | .mkSlice w z len=>(match e len with
   | .int .i64 n=>(match (match ty with|some r=>some r|none=>dr (Hb z)) with
     | some r=>(match r.of (Hb z) with
       |some d=>if z.length == w&&r.w == w&&Nat.blt 0 w&&Hu z then some (.p (0<=n/\As (n.toNat*w)),.sl .own r (lRep n d),st) else none
       |none=>none)
     |none=>none)
   |_=>none)
 | .litSlice w n zs ps=>
   if n == 0 then some (.tt,(match ty with|some r=>.sl .own r []|none=>.nil .own),st)
   else if Hu zs&&zs.length == n*w&&Nat.blt 0 w then (match Jy (Hb zs) ps st with
    | some (cs,st)=>(match (match ty with|some r=>some r|none=>dr (cs.take w)) with
      | some r=>if r.w == w then (match Pj r w n cs with
        |some l=>some (.tt,.sl .own r l,st)
        |none=>none) else none
      |none=>none)
    |none=>none)
   else none
 |.loadB i n a=>LP m i n (e a) st
 | .loadH n a=>(match MU m n (e a) st with
   |some r=>r
   |none=>KL m n (e a) st)
 | .loadX i c n a=>if (e a).nestX i c then (match MU m n (e a) st with
   |some r=>r
   |none=>none) else none
 |.storeB i n a x=>RD i n a x st
 | .storeH n a x=>if (e a).ok then (match (e a).nest with
   |some (hd,p,k,j,o)=>aQ n hd p k j o (e x) st
   |none=>RE n a x st) else none
 | .app w x y=>(match JH w y st with
   |some (new,st)=>Me w x new st
   |none=>none)
 | .appN w x y=>(match x.dev st.sl with
   | .nil .own=>(match JH w y st with
     |some (new,st)=>Me w x new st
     |none=>none)
   |_=>none)
 | .extract x i=>(match x with
   | .t t=>(match Bq st.sl t with
     |.tup vs=>if Nat.blt i vs.length&&(Ha vs i).ok then (if (Ha vs i).own then (if (Ha vs i).bor (.s t) then none else some (.tt,Ha vs i,{ st with sl:=Dw (.s t) (DX st.sl t (.tup (PT vs i .undef))) })) else some (.tt,Ha vs i,st)) else none
     |_=>none)
   |.c _=>none)
 |.pick ..=>none
 |.callB ..=>none
 |o=>(PA o e).map λ r=>(r.1,r.2,st)
def MZ(ws:List (Nat×Nat))(m:Bool)(o:AOp)(ty:Option RT)(st:DS):Ez:=
 match o with
 | .app w x y=>(match ws with
   | [(0,w')]=>if w' == w then (match JH w y st with
     |some (new,st)=>R8 w x new st
     |none=>none) else none
   |_=>none)
 | o => (match Bp m o ty st with
   | some (g,v,st)=>(match Nx ws v with
     |some v=>some (g,v,st)
     |none=>none)
   |none=>none)
end
noncomputable section
def Xr(c:Bool):BX->BX->BX
 |.lit true,.lit true=>.lit true
 |.lit false,.lit false=>.lit false
 |.lit true,.lit false=>.dyn c
 |.lit false,.lit true=>.dyn (bNot c)
 |.lit true,.dyn y=>.dyn (bOr c y)
 |.lit false,.dyn y=>.dyn (bAnd (bNot c) y)
 |.dyn x,.lit true=>.dyn (bOr (bNot c) x)
 |.dyn x,.lit false=>.dyn (bAnd c x)
 |.dyn x,.dyn y=>.dyn (bSel c x y)
def Fb(q q':Ql):Bool:=decide (q=q')
mutual
def DF(c:Bool):DV->DV->DV
 |.undef,.undef=>.undef
 |.bool x,.bool y=>.bool (Xr c x y)
 |.int k x,.int k' y=>if IntKind.same k k' then .int k (bSel c x y) else .any
 |.str x,.str y=>.str (bSel c x y)
 |.ifc x,.ifc y=>.ifc (bSel c x y)
 |.nil q,.nil q'=>if Fb q q' then .nil q else .any
 |.nil q,.sl q' r l=>if Fb q q' then .sl q r (bSel c [] l) else .any
 |.sl q r l,.nil q'=>if Fb q q' then .sl q r (bSel c l []) else .any
 | .sl q r l,.sl q' r' l'=>if Fb q q' then (match LX (r':=r') (r:=r) l' with
   |some l'=>.sl q r (bSel c l l')
   |none=>.any) else .any
 |.box i o,.box i' o'=>if i == i'&&o == o' then .box i o else .any
 |.ptr i o,.ptr i' o'=>if i == i'&&o == o' then .ptr i o else .any
 |.agg x,.agg y=>if x.length == y.length&&DV.okL (KO c x y) then .agg (KO c x y) else .any
 |.tup x,.tup y=>if x.length == y.length&&DV.okL (KO c x y) then .tup (KO c x y) else .any
 |_,_=>.any
def KO(c:Bool):List DV->List DV->List DV
 |x::a,y::b=>DF c x y::KO c a b
 |_,_=>[]
end
def XB(c:Bool)(x y:DC):DC:=if x.d||y.d then ⟨true,DF c x.v y.v⟩ else x
def Sf(c:Bool):List DC->List DC->List DC
 |x::a,y::b=>XB c x y::Sf c a b
 |_,_=>[]
def Sv(c:Bool):List (List DC)->List (List DC)->List (List DC)
 |x::a,y::b=>(if x.length == y.length then Sf c x y else [])::Sv c a b
 |_,_=>[]
def Nu(c:Bool)(x y:DS):Option DS:=
 if x.sl.length == y.sl.length&&x.bx.length == y.bx.length&&x.hp.length == y.hp.length then some ⟨Sf c x.sl y.sl,Sv c x.bx y.bx,Sv c x.hp y.hp⟩ else none
def PO:List DC->List DC->List DC
 |x::a,y::b=>⟨x.d||y.d,y.v⟩::PO a b
 |_,r=>r
def SK:List (List DC)->List (List DC)->List (List DC)
 |x::a,y::b=>PO x y::SK a b
 |_,r=>r
def L5(x y:DS):DS:=⟨PO x.sl y.sl,SK x.bx y.bx,SK x.hp y.hp⟩
inductive DT where
 |leaf (e:AExit) (st:DS)
 |node (c:Bool) (a b:DT)
 |chk (g:PX) (t:DT)
 |bad
inductive NS where
 |none|some (st:DS)|fail
def DT.norm:DT->NS
 |.leaf .normal st=>.some st
 |.leaf _ _=>.none
 | .node c a b=>(match a.norm,b.norm with
   |.none,y=>y
   |x,.none=>x
   | .some x,.some y=>(match Nu c x y with
     |some z=>.some z
     |none=>.fail)
   |_,_=>.fail)
 |.chk _ t=>t.norm
 |.bad=>.none
def DT.nn:DT->Nat
 |.leaf .normal _=>1
 |.node _ a b=>a.nn+b.nn
 |.chk _ t=>t.nn
 |_=>0
def DT.cont:DT->Option BX
 |.leaf .normal _=>some (.lit true)
 |.leaf _ _=>some (.lit false)
 | .node c a b=>(match a.cont,b.cont with
   |none,y=>y
   |x,none=>x
   |some x,some y=>some (Xr c x y))
 |.chk _ t=>t.cont
 |.bad=>none
def DT.ok:DT->PX
 |.leaf _ _=>.tt
 |.node c a b=>PX.if' c a.ok b.ok
 |.chk g t=>g.land t.ok
 |.bad=>.ff
def DT.nodeB(c:Bool):DT->DT->DT
 |.bad,b=>b
 |a,.bad=>a
 |a,b=>.node c a b
def DT.drop:DT->DT
 |.leaf .normal _=>.bad
 |.leaf e st=>.leaf e st
 |.node c a b=>DT.nodeB c a.drop b.drop
 |.chk _ t=>t.drop
 |.bad=>.bad
def DT.map(f:DS->DS):DT->DT
 |.leaf e st=>.leaf e (f st)
 |.node c a b=>.node c (a.map f) (b.map f)
 |.chk g t=>.chk g (t.map f)
 |.bad=>.bad
def DT.bind(f:DS->DT)(h:DS->DS):DT->DT
 |.leaf .normal st=>f st
 |.leaf e st=>.leaf e (h st)
 |.node c a b=>.node c (a.bind f h) (b.bind f h)
 |.chk g t=>.chk g (t.bind f h)
 |.bad=>.bad
def DT.unexit(i:Nat):DT->DT
 |.leaf (.exit j) st=>if j == i then .leaf .normal st else .leaf (.exit j) st
 |.leaf e st=>.leaf e st
 |.node c a b=>.node c (a.unexit i) (b.unexit i)
 |.chk g t=>.chk g (t.unexit i)
 |.bad=>.bad
def DT.chk':PX->DT->DT
 |.tt,t=>t
 |g,t=>.chk g t
def DT.then(f:DS->DT)(h:DS->DS)(t:DT):DT:=
 if Nat.ble t.nn 1 then t.bind f h
 else match t.norm with
  | .some m=>DT.chk' t.ok (match t.cont with
    |some (.dyn c)=>.node c (f m) (t.drop.map h)
    |some (.lit true)=>f m
    |_=>.bad)
  |_=>t.bind f h
section
variable {X:Type}
inductive LoopTo (c:X->Bool) (f:X->X) (p:X->Prop):X->X->Prop
 |stop {x:X}:p x->c x=false->LoopTo c f p x x
 |go {x y:X}:p x->c x=true->LoopTo c f p (f x) y->LoopTo c f p x y
def LoopOk(c:X->Bool)(f:X->X)(p:X->Prop)(x:X):Prop:=∃ y,LoopTo c f p x y
open Classical in
def Al(c:X->Bool)(f:X->X)(x:X):X:=if h:∃ y,LoopTo c f (λ _=>True) x y then Classical.choose h else x
theorem LoopTo.fst{c:X->Bool}{f:X->X}{p q:X->Prop}{x y z:X}(h:LoopTo c f p x y)(h':LoopTo c f q x z):y=z:=by
 induction h with
 | stop _ h1=>
   cases h' with
   |stop=>rfl
   |go _ h2=>rw[h1] at h2;cases h2
 | go _ h1 _ ih=>
   cases h' with
   |stop _ h2=>rw[h1] at h2;cases h2
   |go _ _ h3=>exact ih h3
theorem LoopTo.mono{c:X->Bool}{f:X->X}{p q:X->Prop}(hp:∀ x,p x->q x){x y:X}(h:LoopTo c f p x y):LoopTo c f q x y:=by
 induction h with
 |stop h0 h1=>exact .stop (hp _ h0) h1
 |go h0 h1 _ ih=>exact .go (hp _ h0) h1 ih
theorem LoopTo.val{c:X->Bool}{f:X->X}{p:X->Prop}{x y:X}(h:LoopTo c f p x y):Al c f x=y:=by
 have h':∃ y,LoopTo c f (λ _=>True) x y:=⟨y,h.mono λ _ _=>trivial⟩;unfold Al;rw[dif_pos h'];exact(Classical.choose_spec h').fst h
theorem wi{c:X->Bool}{f:X->X}{x:X}(h:c x=false):Al c f x=x:=(LoopTo.stop (p:=λ _=>True) trivial h).val
theorem LoopOk.to{c:X->Bool}{f:X->X}{p:X->Prop}{x:X}(h:LoopOk c f p x):LoopTo c f p x (Al c f x):=by
 obtain⟨y,h⟩:=h;rw[h.val];exact h
end
inductive Pl where
 |s (i:Nat)|b (i c:Nat)|h (i c:Nat)
inductive HT where
 |one (q:Ql) (t:CT)|agg (l:List (Ql×CT))
structure Hole where
 pl:Pl
 t:HT
def AgX:List (Ql×CT)->Type
 |[]=>Unit
 |[a]=>a.2.D
 |a::r=>a.2.D×AgX r
def HT.D:HT->Type
 |.one _ t=>t.D
 |.agg l=>AgX l
def HM:List Hole->Type
 |[]=>Unit
 |[a]=>a.t.D
 |a::r=>a.t.D×HM r
def DS.at(st:DS):Pl->DV
 |.s i=>Bq st.sl i
 |.b i c=>Bq (BH st.bx i) c
 |.h i c=>Bq (BH st.hp i) c
def DS.wr(st:DS)(v:DV):Pl->DS
 |.s i=>{ st with sl:=DX st.sl i v }
 |.b i c=>{ st with bx:=E7 st.bx i (DX (BH st.bx i) c v) }
 |.h i c=>{ st with hp:=E7 st.hp i (DX (BH st.hp i) c v) }
def CT.ofQ(q:Ql):(t:CT)->DV->Option t.D
 |.int k,.int k' n=>if IntKind.same k k' then some n else none
 |.bool,.bool b=>some b.b
 |.str,.str s=>some s
 |.ifc,.ifc b=>some b
 |.sl r,.nil q'=>if Fb q q' then some ([]:List r.D) else none
 |.sl r,.sl q' r' l=>if Fb q q' then LX (r':=r') (r:=r) l else none
 |_,_=>none
def E9:(l:List (Ql×CT))->List DV->Option (AgX l)
 |[],[]=>some ()
 |[a],[v]=>a.2.ofQ a.1 v
 | a::b::r,v::vs=>(match a.2.ofQ a.1 v,E9 (b::r) vs with
   |some x,some y=>some (x,y)
   |_,_=>none)
 |_,_=>none
def B9:(l:List (Ql×CT))->AgX l->List DV
 |[],_=>[]
 |[a],x=>[a.2.dv a.1 x]
 |a::b::r,x=>a.2.dv a.1 x.1::B9 (b::r) x.2
def HT.of:(h:HT)->DV->Option h.D
 |.one q t,v=>t.ofQ q v
 |.agg l,.agg vs=>E9 l vs
 |.agg _,_=>none
def HT.dv:(h:HT)->h.D->DV
 |.one q t,x=>t.dv q x
 |.agg l,x=>.agg (B9 l x)
def Mg(st:DS):(H:List Hole)->Option (HM H)
 |[]=>some ()
 |[a]=>a.t.of (st.at a.pl)
 | a::b::r=>(match a.t.of (st.at a.pl),Mg st (b::r) with
   |some x,some y=>some (x,y)
   |_,_=>none)
def wrX(st:DS):(H:List Hole)->HM H->DS
 |[],_=>st
 |[a],x=>st.wr (a.t.dv x) a.pl
 |a::b::r,x=>wrX (st.wr (a.t.dv x.1) a.pl) (b::r) x.2
def DV.same:DV->DV->Bool
 |.undef,.undef=>true
 |.nil q,.nil q'=>Fb q q'
 |.box i o,.box i' o'=>i == i'&&o == o'
 |.ptr i o,.ptr i' o'=>i == i'&&o == o'
 |_,_=>false
def DV.isAny:DV->Bool
 |.any=>true
 |_=>false
inductive Cls where
 |left|hole (t:HT)|kill
def mR:DV->DV->Option (Ql×CT)
 |.int k _,.int k' _=>if IntKind.same k k' then some (.own,.int k) else none
 |.bool _,.bool _=>some (.own,.bool)
 |.str _,.str _=>some (.own,.str)
 |.ifc _,.ifc _=>some (.own,.ifc)
 |.nil q,.sl q' r _=>if Fb q q' then some (q,.sl r) else none
 |.sl q r _,.nil q'=>if Fb q q' then some (q,.sl r) else none
 |.sl q r _,.sl q' r' _=>if Fb q q'&&RT.beq r' r then some (q,.sl r) else none
 |_,_=>none
def mT:List DV->List DV->Option (List (Ql×CT))
 |[],[]=>some []
 | x::a,y::b=>(match mR x y,mT a b with
   |some t,some l=>some (t::l)
   |_,_=>none)
 |_,_=>none
def mX(x:DV)(y:DC):Cls:=
 if y.d then (if x.isAny||x.same y.v then .left else match x,y.v with
  | .agg a,.agg b=>(match mT a b with
    |some l=>.hole (.agg l)
    |none=>.kill)
  | x,y=>(match mR x y with
    |some t=>.hole (.one t.1 t.2)
    |none=>.kill)) else .left
def KW(pl:Nat->Pl):Nat->List DC->List DC->List Hole×List DC
 | n,x::a,y::b=>(match mX x.v y,KW pl (n+1) a b with
   |.left,(H,l)=>(H,x::l)
   |.hole t,(H,l)=>(⟨pl n,t⟩::H,⟨true,.any⟩::l)
   |.kill,(H,l)=>(H,⟨true,.any⟩::l))
 |_,a,_=>([],a)
def Nq(pl:Nat->Nat->Pl):Nat->List (List DC)->List (List DC)->List Hole×List (List DC)
 | n,x::a,y::b=>(match Nq pl (n+1) a b with
   |(H,l)=>if x.length == y.length then (match KW (pl n) 0 x y with|(H',x')=>(H'++H,x'::l)) else (H,[]::l))
 |_,a,_=>([],a)
def SN(x y:DS):List Hole×DS:=
 match KW .s 0 x.sl y.sl,Nq .b 0 x.bx y.bx,Nq .h 0 x.hp y.hp with
 |(H1,s),(H2,b),(H3,h)=>(H1++H2++H3,⟨s,b,h⟩)
def SE:List DC->List DC->Bool
 |k::a,y::b=>(k.v.isAny||!y.d||k.v.same y.v)&&SE a b
 |[],[]=>true
 |_,_=>false
def SO:List (List DC)->List (List DC)->Bool
 |k::a,y::b=>(k.length == 0||SE k y)&&SO a b
 |[],[]=>true
 |_,_=>false
def de(K y:DS):Bool:=SE K.sl y.sl&&SO K.bx y.bx&&SO K.hp y.hp
def OZ(K:DS):List Hole->Bool
 |[]=>true
 |a::r=>(K.at a.pl).isAny&&OZ K r
def DV.top:DV->Bool
 |.sl (.bor _ _ t) _ _=>t
 |.sl (.pre _ _) _ _=>true
 |.nil (.bor _ _ t)=>t
 |.nil (.pre _ _)=>true
 |.ep (.bor _ _ t) _ _ _ _=>t
 |.ep (.pre _ _) _ _ _ _=>true
 |.agg _=>true
 |.tup _=>true
 |_=>false
mutual
def DV.hasTop:DV->Bool
 |.agg cs=>DV.hasTopL cs
 |.tup cs=>DV.hasTopL cs
 |v=>v.top
def DV.hasTopL:List DV->Bool
 |[]=>false
 |v::r=>v.hasTop||DV.hasTopL r
end
def WT (live:List Nat):Nat->List DC->List DC
 |_,[]=>[]
 |n,c::r=>(if live.contains n then (if c.v.hasTop then ⟨true,c.v.detop⟩ else c) else ⟨true,.any⟩)::WT live (n+1) r
def Ew(live:List Nat)(st:DS):DS:={ st with sl:=WT live 0 st.sl }
def Xa(live:List Nat)(st:DS):DS:={ st with sl:=Xc live 0 st.sl }
def Sb(live:List Nat)(body:DS->DT)(A:DS):Nat->DS->Option (List Hole×DS)
 | 0,cur=>(match (body cur).norm with
   |.some m=>some (SN A (Ew live m))
   |_=>none)
 | n + 1,cur=>(match (body cur).norm with
   | .some m=>(match SN A (Ew live m) with
     | (H,K)=>(match Mg A H with
       |some x0=>Sb live body A n (wrX K H x0)
       |none=>none))
   |_=>none)
def NS.isNone:NS->Bool
 |.none=>true
 |_=>false
section
variable (live:List Nat) (body:DS->DT) (K:DS) (H:List Hole)
def lT(x:HM H):DT:=body (wrX K H x)
def PG(x:HM H):Bool:=match (lT body K H x).cont with|some b=>b.b|none=>false
def PK(x:HM H):HM H:=match (lT body K H x).norm with
 |.some m=>(match Mg (Ew live m) H with|some y=>y|none=>x)
 |_=>x
def mu(x:HM H):PX:=(lT body K H x).ok.land (match (lT body K H x).norm with
 |.some m=>if de K (Ew live m)&&(Mg (Ew live m) H).isSome then .tt else .ff
 |.none=>.tt
 |.fail=>.ff)
end
def PE (live:List Nat)(n:Nat)(body:DS->DT)(st:DS):DT:=
 if (body (Ew live st)).norm.isNone then (body (Ew live st)).map (L5 (Ew live st))
 else match Sb live body (Ew live st) n (Ew live st) with
 |none=>.bad
 | some (H,K)=>(match Mg (Ew live st) H with
   |none=>.bad
   | some x0=>if OZ K H then
      .chk (.p (LoopOk (PG body K H) (PK live body K H) (λ x=>(mu live body K H x).den) x0))
       ((lT body K H (Al (PG body K H) (PK live body K H) x0)).drop.map (L5 (wrX K H (Al (PG body K H) (PK live body K H) x0))))
     else .bad)
abbrev Mf:=List DV->Option (PX×DV)
abbrev CO:=List DV->List (List DV)->Option (PX×DV×List (List DV))
structure DMk where
 r:RT
 agg:Bool
 ok:r.D->Prop
 g:r.D->Int->r.D×Int
 vd:Bool
def DMk.P(M:DMk):PMk:=⟨M.agg,λ AA m K=>∃ x,AA=M.r.enc x/\M.ok x/\K (M.r.enc (M.g x m).1) (M.g x m).2,M.vd⟩
inductive DOp where
 |a (m:Bool) (o:AOp) (ty:Option RT)
 |aw (ws:List (Nat×Nat)) (m:Bool) (o:AOp) (ty:Option RT)
 |call (m:Bool) (f:Bc) (p:Cf) (D:Mf) (args:List Opnd)
 |mark (f:Bc) (M:DMk) (x k:Opnd)
 |callp (m:Bool) (f:Bc) (p:Cf) (D:CO) (args:List Opnd)
 |callv (m:Bool) (f:Bc) (p:Cf) (D:CO) (args:List Opnd) (i c:Nat)
 |fz (x:Opnd)
 |clm (a:Opnd) (t:Nat) (o:AOp)
 |fzb (a:Opnd) (o:AOp)
structure DOper where
 id:Nat
 dst:Option Nat
 op:DOp
 guard:Option (Nat×Bool)
 anc:List Nat
inductive DCode where
 |skip
 |region (ops:List DOper)
 |regionU (ops:List DOper)
 |seq (l:List Nat) (a b:DCode)
 |cond (c:Opnd) (a b:DCode)
 |block (id:Nat) (a:DCode)
 |scope (a:DCode)
 |loop (live:List Nat) (n:Nat) (a:DCode)
 |exit (id:Nat)
 |ret
def DOp.er:DOp->POp
 |.a m o _=>.a m o
 |.aw ws m o _=>.aw ws m o
 |.call m f p _ args=>.callk m f p args
 |.mark f M x k=>.mark f M.P x k
 |.callp m f p _ args=>.call m f p args
 |.callv m f p _ args i c=>.callv m f p args i c
 |.fz x=>.fz x
 |.clm x t o=>.clm x t o
 |.fzb x o=>.fzb x o
def DOper.er(o:DOper):POper:=⟨o.id,o.dst,o.op.er,o.guard,o.anc⟩
def DCode.er:DCode->PCode
 |.skip=>.skip
 |.region ops=>.region (ops.map DOper.er)
 |.regionU ops=>.regionU (ops.map DOper.er)
 |.seq l a b=>.seq l a.er b.er
 |.cond c a b=>.cond c a.er b.er
 |.block i a=>.block i a.er
 |.scope a=>.scope a.er
 |.loop l _ a=>.loop l a.er
 |.exit i=>.exit i
 |.ret=>.ret
@[reducible] def oa (i d:Nat) (o:AOp):DOper:=⟨i,some d,.a false o none,none,[]⟩
@[reducible] def ob (i d:Nat) (o:AOp):DOper:=⟨i,some d,.a true o none,none,[]⟩
@[reducible] def om (i d t:Nat):DOper:=⟨i,some d,.a false (.mv (.t t)) none,none,[]⟩
@[reducible] def on (i d t:Nat):DOper:=⟨i,some d,.a true (.mv (.t t)) none,none,[]⟩
@[reducible] def oi (i d:Nat) (n:Int):DOper:=⟨i,some d,.a false (.mv (.c (.int .i64 n))) none,none,[]⟩
@[reducible] def os (i:Nat) (o:AOp):DOper:=⟨i,none,.a false o none,none,[]⟩
@[reducible] def og (i d:Nat) (o:AOp) (g:Nat) (b:Bool):DOper:=⟨i,some d,.a false o none,some (g,b),[]⟩
@[reducible] def xA (i d:Nat) (o:AOp) (a:List Nat):DOper:=⟨i,some d,.a false o none,none,a⟩
@[reducible] def xB (i d:Nat) (o:AOp) (a:List Nat):DOper:=⟨i,some d,.a true o none,none,a⟩
@[reducible] def xS (i:Nat) (o:AOp) (a:List Nat):DOper:=⟨i,none,.a false o none,none,a⟩
@[reducible] def op (i d:Nat) (f:Bc) (p:Cf) (D:CO) (args:List Opnd):DOper:=⟨i,some d,.callp false f p D args,none,[]⟩
@[reducible] def xP (i d:Nat) (f:Bc) (p:Cf) (D:CO) (args:List Opnd) (a:List Nat):DOper:=⟨i,some d,.callp false f p D args,none,a⟩
def lg:Nat->Nat->List Nat
 |_,0=>[]
 |k,n+1=>k::lg (k+1) n
def rg(n:Nat):List Nat:=lg 0 n
def EX:List Opnd->DS->DS
 |[],st=>st
 |x::r,st=>EX r (Fs x st).2
def FF(s:List DC):List Opnd->List DV
 |[]=>[]
 |x::r=>x.dev s::FF s r
def Nb(D:Mf)(args:List Opnd)(st:DS):Ez:=
 let as:=FF st.sl args
 if Ih as&&!(DV.hasPtrL as) then (match D (DV.nrmV (DV.fzL as)) with
  |some (g,v)=>if v.ok&&!v.hasPtr&&(v.deep||!(DV.holdL as)) then some (g,v,st) else none
  |none=>none)
 else none
def Ql.isH':Ql->Bool
 |.bor (.h _) _ _=>true
 |.pre (.h _) _=>true
 |_=>false
mutual
def DV.isH:DV->Bool
 |.nil q=>q.isH'
 |.sl q _ _=>q.isH'
 |.ep q _ _ _ _=>q.isH'
 |.agg cs=>DV.isHL cs
 |.tup vs=>DV.isHL vs
 |_=>false
def DV.isHL:List DV->Bool
 |[]=>false
 |v::r=>v.isH||DV.isHL r
end
def Sy:List DC->List DC
 |[]=>[]
 |c::r=>(if c.v.isH then ⟨true,.any⟩ else c)::Sy r
def HB:List (List DC)->List (List DV)
 |[]=>[]
 |b::r=>BO b::HB r
def newsB:List (List DV)->List (List DC)
 |[]=>[]
 |b::r=>news b::newsB r
def Np:List DC->List DV->List DC
 |[],vs=>news vs
 |c::r,[]=>c::r
 |c::r,v::vs=>(if v.isAny then c else ⟨true,v⟩)::Np r vs
def Ni:List (List DC)->List (List DV)->List (List DC)
 |[],vs=>newsB vs
 |c::r,[]=>c::r
 |c::r,v::vs=>Np c v::Ni r vs
def D8:List DV->List DV->List DV
 |[],vs=>vs
 |c::r,[]=>c::r
 |c::r,v::vs=>(if v.isAny then c else v)::D8 r vs
def IF:List (List DV)->List (List DV)->List (List DV)
 |[],vs=>vs
 |c::r,[]=>c::r
 |c::r,v::vs=>D8 c v::IF r vs
def XD:List (List DV)->Bool
 |[]=>true
 |b::r=>Nat.blt 0 b.length&&DV.okL b&&XD r
def Gw:List (List DV)->List (List PV)
 |[]=>[]
 |b::r=>DV.encL b::Gw r
def DV.isP0:DV->Bool
 |.ptr 0 0=>true
 |_=>false
def KG(D:CO)(args:List Opnd)(st:DS):Ez:=
 let as:=FF st.sl args
 if Ih as&&!(DV.holdL as)&&XD (HB st.hp) then
  (if DV.hasPtrL as then (match D (DV.nrmV (DV.fzL as)) (HB st.hp) with
   |some (g,v,H)=>if v.ok&&!v.hasPtr then some (g,v,{ st with sl:=Sy st.sl,hp:=Ni st.hp H }) else none
   |none=>none)
  else if st.hp.length == 0 then (match D (DV.nrmV (DV.fzL as)) [] with
   |some (g,v,H)=>if v.isP0 then some (g,v,{ st with hp:=newsB H }) else none
   |none=>none)
  else none)
 else none
def DV.ownS:DV->Bool
 |.sl .own _ _|.nil .own=>true
 |_=>false
def RQ(i c:Nat)(D:CO)(args:List Opnd)(st:DS):Ez:=
 if DV.hasPtrL (FF st.sl args)&&(CH st (.b i) [c]).ownS then KG D args st else none
def DV.isAgg:DV->Bool
 |.agg _=>true
 |_=>false
def DV.flatc:DV->Bool
 |.bool _|.int _ _|.str _|.ifc _=>true
 |_=>false
def Xm:Nat->List DV->Option (Hd×Nat)
 |_,[]=>none
 |c,.sl (.bor hd [p] true) _ _::_=>if Nat.ble c p&&hd.sb then some (hd,p-c) else none
 |c,.nil (.bor hd [p] true)::_=>if Nat.ble c p&&hd.sb then some (hd,p-c) else none
 |c,_::r=>Xm (c+1) r
def FC(st:DS)(hd:Hd):Nat->List DV->Option (PX×List DV)
 |_,[]=>some (.tt,[])
 |c,.sl q _ l::vs=>if Fb q (.bor hd [c] true) then (match CH st hd [c],FC st hd (c+1) vs with
  |.sl .own r' l',some (g,os)=>some (PX.land (.p (l.length=l'.length)) g,.sl .own r' l'::os)
  |.nil .own,some (g,os)=>some (PX.land (.p (l.length=0)) g,.nil .own::os)
  |_,_=>none) else none
 |c,.nil q::vs=>if Fb q (.bor hd [c] true) then (match CH st hd [c],FC st hd (c+1) vs with
  |.sl .own r' l',some (g,os)=>some (PX.land (.p (l'.length=0)) g,.sl .own r' l'::os)
  |.nil .own,some (g,os)=>some (g,.nil .own::os)
  |_,_=>none) else none
 |c,v::vs=>if v.flatc then (match FC st hd (c+1) vs with
  |some (g,os)=>some (g,v::os)
  |none=>none) else none
def IJ(hd:Hd):Nat->List DV->DS->Option DS
 |_,[],st=>some st
 | c,.sl q r l::vs,st=>(match CH st hd [c] with
   |.sl .own _ _=>IJ hd (c+1) vs (HI st (.sl q r l) hd [c])
   |.nil .own=>IJ hd (c+1) vs (HI st (.sl q r l) hd [c])
   |_=>none)
 |_,.nil _::_,_=>none
 |c,_::vs,st=>IJ hd (c+1) vs st
def Na (M:DMk)(x k:Opnd)(st:DS):Ez:=
 match k.dev st.sl with
 | .int .i64 m=>if (x.dev st.sl).isAgg == M.agg&&(x.dev st.sl).argok&&M.r.pl then (match Xm 0 (x.dev st.sl).cells with
   | some (hd,b)=>(match FC st hd b (x.dev st.sl).cells with
     | some (g,os)=>(match M.r.of os with
       | some y=>(match IJ hd b (M.r.dv .own (M.g y m).1) st with
         |some st'=>some (g.land (.p (M.ok y)),(match M.vd with|true=>.undef|false=>.int .i64 (M.g y m).2),st')
         |none=>none)
       |none=>none)
     |none=>none)
   |none=>none) else none
 |_=>none
def M1(a:DV)(n:Nat)(st:DS):Ez:=
 match a with
 |.box i o=>LP true i (some n) (.box i o) st
 |.ptr i o=>KL true (some n) (.ptr i o) st
 |_=>none
def DV.hld:DV->Option (Hd×Nat)
 |.box i o=>some (.b i,o)
 |.ptr i o=>some (.h i,o)
 |_=>none
def mO(c:DC):DC:=
 match c.v with
 |.sl .frz _ _=>c
 |.nil .frz=>c
 |.sl _ _ _=>⟨true,c.v.fz⟩
 |.nil _=>⟨true,c.v.fz⟩
 |.any=>c
 |.undef=>c
 |.int _ _=>c
 |.bool _=>c
 |.str _=>c
 |.ifc _=>c
 |_=>⟨true,c.v.fz⟩
def PM:List DC->List DC
 |[]=>[]
 |c::r=>mO c::PM r
def Nt(a:DV)(st:DS):Option DS:=
 match a with
 |.box i _=>some { st with sl:=Dw (.b i) st.sl,bx:=E7 st.bx i (PM (BH st.bx i)) }
 |.ptr i _=>some { st with sl:=Dw (.h i) st.sl,hp:=E7 st.hp i (PM (BH st.hp i)) }
 |_=>none
def Nj(a:Opnd)(t:Nat)(st:DS):Option (PX×DS):=
 match (a.dev st.sl).hld,Bq st.sl t with
 | some (hd,b),.agg cs=>(match FC st hd b cs with
   | some (g,os)=>(match M1 (a.dev st.sl) os.length st with
     |some (g2,_,st1)=>some (g.land g2,st1.put (some t) (.agg os))
     |none=>none)
   |none=>none)
 |_,_=>none
def Cx(o:DOp)(d:Option Nat)(k:DS->DT)(st:DS):DT:=
 match o with
 | .call m _ _ D args=>(match Nb D args (if m then EX args st else st) with
   |some (g,v,st)=>DT.chk' g (k (st.put d v))
   |none=>.bad)
 | .callp m _ _ D args=>(match KG D args (if m then EX args st else st) with
   |some (g,v,st)=>DT.chk' g (k (st.put d v))
   |none=>.bad)
 |.fz x=>if (Fs x st).1.ok then k ((Fs x st).2.put d (Fs x st).1.nrm) else .bad
 | .fzb a o=>(match Nt (a.dev st.sl) st with
   | some st=>(match Bp false o none st with
     |some (g,v,st)=>DT.chk' g (k (st.put d v))
     |none=>.bad)
   |none=>.bad)
 | .clm a t o=>(match Nj a t st with
   | some (g0,st)=>(match Bp false o none st with
     |some (g,v,st)=>DT.chk' (g0.land g) (k (st.put d v))
     |none=>.bad)
   |none=>.bad)
 | .callv m _ _ D args i c=>(match RQ i c D args (if m then EX args st else st) with
   |some (g,v,st)=>DT.chk' g (k (st.put d v))
   |none=>.bad)
 | .aw ws m o ty=>(match MZ ws m o ty st with
   |some (g,v,st)=>DT.chk' g (k (st.put d v))
   |none=>.bad)
 | .mark _ M x y=>(match Na M x y st with
   |some (g,v,st)=>DT.chk' g (k (st.put d v))
   |none=>.bad)
 | .a m o ty=>(match o with
   | .pick c a b=>(match c.dev st.sl with
     | .bool (.lit t)=>(match if t then Bo a st else Bo b st with
       |(v,st)=>if v.ok then k (st.put d v) else .bad)
     | .bool (.dyn t)=>
       if (a.dev st.sl).own||(b.dev st.sl).own||!(DF t (a.dev st.sl) (b.dev st.sl)).ok then .node t (match Bo a st with|(v,st)=>if v.ok then k (st.put d v) else .bad) (match Bo b st with|(v,st)=>if v.ok then k (st.put d v) else .bad)
       else k (st.put d (DF t (a.dev st.sl) (b.dev st.sl)))
     |_=>.bad)
   | o=>(match Bp m o ty st with
     |some (g,v,st)=>DT.chk' g (k (st.put d v))
     |none=>.bad))
def Nr(st:DS)(g:Nat)(b:Bool):DS:={ st with sl:=DX st.sl g (.bool (.lit b)) }
def PJ(o:DOper)(k:DS->DT)(st:DS):DT:=
 match o.guard with
 |none=>Cx o.op o.dst k st
 | some (g,want)=>(match Bq st.sl g with
   |.bool (.lit b)=>if b == want then Cx o.op o.dst k st else k (st.put o.dst (.tup []))
   |.bool (.dyn b)=>.node b (if want then Cx o.op o.dst k (Nr st g true) else k ((Nr st g true).put o.dst (.tup []))) (if want then k ((Nr st g false).put o.dst (.tup [])) else Cx o.op o.dst k (Nr st g false))
   |.tup []=>k (st.put o.dst (.tup []))
   |_=>.bad)
def JK:List DOper->DS->DT
 |[],st=>.leaf .normal st
 |o::r,st=>PJ o (JK r) st
def setc(st:DS)(c:Opnd)(b:Bool):DS:=match c with
 |.t g=>Nr st g b
 |.c _=>st
mutual
def DV.pge(n:Nat):DV->Bool
 |.ptr i _=>Nat.ble n i
 |.agg cs=>DV.pgeL n cs
 |.tup vs=>DV.pgeL n vs
 |_=>false
def DV.pgeL(n:Nat):List DV->Bool
 |[]=>false
 |v::r=>v.pge n||DV.pgeL n r
end
def Xo(n:Nat):List DC->List DC
 |[]=>[]
 |c::r=>(if c.v.isH||c.v.pge n then ⟨true,.any⟩ else c)::Xo n r
def DS.trunc(n:Nat)(st:DS):DS:={ st with sl:=Xo n st.sl,hp:=st.hp.take n }
def dev:DCode->DS->DT
 |.skip,st=>.leaf .normal st
 |.region ops,st=>JK ops st
 |.regionU ops,st=>if R7 (ops.map DOper.er) then JK ops st else .bad
 |.seq l a b,st=>(dev a st.clean).then (λ st'=>dev b (L5 st (Xa l st'))) (L5 st)
 | .cond c a b,st=>(match c.dev st.sl with
   |.bool (.lit t)=>if t then dev a st else dev b st
   |.bool (.dyn t)=>.node t (dev a (setc st c true)) (dev b (setc st c false))
   |_=>.bad)
 |.block i a,st=>(dev a st).unexit i
 |.scope a,st=>(dev a st).map (DS.trunc st.hp.length)
 |.loop live n a,st=>PE live n (λ st=>dev a st.clean) st
 |.exit i,st=>.leaf (.exit i) st
 |.ret,st=>.leaf .ret st
structure DFun where
 nparams:Nat
 nslots:Nat
 nbox:Nat
 pure:Bool
 res:List ARes
 body:DCode
def DFun.er(f:DFun):PFun:=⟨f.nparams,f.nslots,f.nbox,f.pure,f.res,f.body.er⟩
def KK(st:DS):ARes->Option (DV×DS)
 |.tmp t=>if (Bq st.sl t).retok&&(Bq st.sl t).ok then some (SM (Bq st.sl t) t st) else none
 | .cell t n=>(match Bq st.sl t with
   |.box i o=>if Nat.ble (o+n.getD 1) (BH st.bx i).length&&JB (Ce (BO (BH st.bx i)) o (n.getD 1)) then (LP true i n (.box i o) st).map (·.2) else none
   |.ptr i o=>if Nat.ble (o+n.getD 1) (BH st.hp i).length&&JB (Ce (BO (BH st.hp i)) o (n.getD 1)) then (KL true n (.ptr i o) st).map (·.2) else none
   |_=>none)
def Ip(st:DS):List ARes->Option (List DV×DS)
 |[]=>some ([],st)
 | r :: rs=>(match KK st r with
   | some (v,st)=>(match Ip st rs with
     |some (vs,st)=>some (v::vs,st)
     |none=>none)
   |none=>none)
def G4(st:DS):List ARes->Option DV
 |[r]=>(KK st r).map (·.1)
 |rs=>(Ip st rs).map λ x=>.tup x.1
def DT.val(res:List ARes):DT->PX×Option DV
 |.leaf (.exit _) _=>(.ff,none)
 | .leaf _ st=>(match G4 st res with
   |some v=>if v.ok&&!v.hasPtr then (.tt,some v) else (.ff,none)
   |none=>(.ff,none))
 | .node c a b=>(match a.val res,b.val res with
   |(g,none),(g',y)=>(PX.if' c g g',y)
   |(g,x),(g',none)=>(PX.if' c g g',x)
   |(g,some x),(g',some y)=>(PX.if' c g g',some (DF c x y)))
 | .chk g t=>(match t.val res with
   |(g',v)=>(g.land g',v))
 |.bad=>(.ff,none)
def Fu(n:Nat):List DC:=match n with
 |0=>[]
 |n+1=>⟨true,.any⟩::Fu n
def Fp:Nat->List (List DC)
 |0=>[]
 |n+1=>[]::Fp n
def Sz(f:DFun)(args:List DV):PX×Option DV:=
 (dev f.body ⟨news args++Fu (f.nslots-f.nparams),Fp f.nbox,[]⟩).val f.res
end
def EC(c:DC)(p:PV):Prop:=c.v= .any\/p=c.v.enc
def EL:List DC->List PV->Prop
 |[],[]=>True
 |c::a,p::b=>EC c p/\EL a b
 |_,_=>False
def EBx(b:List DC)(p:List PV):Prop:=b=[]\/EL b p
def EB:List (List DC)->List (List PV)->Prop
 |[],[]=>True
 |c::a,p::b=>EBx c p/\EB a b
 |_,_=>False
structure ES (d:DS) (s:PS):Prop where
 sl:EL d.sl s.sl
 bx:EB d.bx s.bx
 hp:EB d.hp s.hp
theorem EL.len:∀ {a:List DC} {b:List PV},EL a b->a.length=b.length
 |[],[],_=>rfl
 |_::_,_::_,h=>by simp only[AH,EL.len h.2]
theorem EB.len:∀ {a:List (List DC)} {b:List (List PV)},EB a b->a.length=b.length
 |[],[],_=>rfl
 |_::_,_::_,h=>by simp only[AH,EB.len h.2]
def EV(v:DV)(p:PV):Prop:=v= .any\/p=v.enc
theorem EL.get:∀ {a:List DC} {b:List PV} (n:Nat),EL a b->EV (Bq a n) (Aa b n)
 |[],[],_,_=>.inl rfl
 |_::_,_::_,0,h=>h.1
 |_::_,_::_,n+1,h=>EL.get n h.2
theorem EL.put:∀ {a:List DC} {b:List PV} {v:DV} {p:PV} (n:Nat),EL a b->EV v p->EL (DX a n v) (B3 b n p)
 |[],[],_,_,_,_,_=>trivial
 |_::_,_::_,_,_,0,h,hv=>⟨hv,h.2⟩
 |_::_,_::_,_,_,n+1,h,hv=>⟨h.1,EL.put n h.2 hv⟩
theorem EB.get:∀ {a:List (List DC)} {b:List (List PV)} (n:Nat),EB a b->EBx (BH a n) (Aj b n)
 |[],[],_,_=>.inl rfl
 |_::_,_::_,0,h=>h.1
 |_::_,_::_,n+1,h=>EB.get n h.2
theorem EB.put:∀ {a:List (List DC)} {b:List (List PV)} {v:List DC} {p:List PV} (n:Nat),EB a b->EBx v p->EB (E7 a n v) (B0 b n p)
 |[],[],_,_,_,_,_=>trivial
 |_::_,_::_,_,_,0,h,hv=>⟨hv,h.2⟩
 |_::_,_::_,_,_,n+1,h,hv=>⟨h.1,EB.put n h.2 hv⟩
theorem ET:∀ (l:List DV),(DV.encL l).length=l.length
 |[]=>rfl
 |_::r=>by simp only[DV.encL,AH,ET r]
theorem EL.splice:∀ {a:List DC} {b:List PV} (n:Nat) (vs:List DV),EL a b->EL (Jk a n vs) (AN b n (DV.encL vs))
 |[],[],_,[],_=>trivial
 |[],[],_,_::_,_=>trivial
 |_::_,_::_,0,[],h=>h
 |_::_,_::_,_+1,[],h=>h
 |_::_,_::_,0,v::vs,h=>⟨.inr rfl,EL.splice 0 vs h.2⟩
 |_::_,_::_,n+1,v::vs,h=>⟨h.1,EL.splice n (v::vs) h.2⟩
theorem Vh:∀ (cs:List DV) (n:Nat) (vs:List DV),DV.encL (LC cs n vs)=AN (DV.encL cs) n (DV.encL vs)
 |[],_,[]=>rfl
 |_::_,0,[]=>rfl
 |_::_,_+1,[]=>rfl
 |[],0,_::_=>rfl
 |[],_+1,_::_=>rfl
 |_::r,0,v::vs=>by simp only[LC,DV.encL,AN,Vh r 0 vs]
 |c::r,n+1,v::vs=>by simp only[LC,DV.encL,AN,Vh r n (v::vs)]
theorem VM:∀ (cs:List DV) (o n:Nat),DV.encL (Ce cs o n)=segm (DV.encL cs) o n
 |[],0,0=>rfl
 |[],0,_+1=>rfl
 |[],_+1,_=>rfl
 |_::_,0,0=>rfl
 |c::r,0,n+1=>by simp only[Ce,DV.encL,segm,VM r 0 n]
 | _::r,o+1,n=>by
   simp only[Ce,DV.encL,segm];exact VM r o n
theorem OV:∀ (cs:List DV) (n:Nat),(Ha cs n).enc=Aa (DV.encL cs) n
 |[],_=>rfl
 |_::_,0=>rfl
 |_::r,n+1=>OV r n
theorem Wc:∀ (cs:List DV) (n:Nat) (v:DV),DV.encL (PT cs n v)=B3 (DV.encL cs) n v.enc
 |[],_,_=>rfl
 |_::_,0,_=>rfl
 |_::r,n+1,v=>by simp only[PT,DV.encL,B3,Wc r n v]
theorem EL.segm:∀ {a:List DC} {b:List PV} (o n:Nat),EL a b->DV.okL (Ce (BO a) o n)=true->Go.Ag.segm b o n=DV.encL (Ce (BO a) o n)
 |[],[],0,0,_,_=>rfl
 |[],[],0,_+1,_,_=>rfl
 |[],[],_+1,_,_,_=>rfl
 |_::_,_::_,0,0,_,_=>rfl
 | c::r,p::s,0,n+1,h,hk=>by
   simp only[BO,Ce,DV.okL,Ah] at hk
   simp only[BO,Ce,Go.Ag.segm,DV.encL]
   rw[EL.segm 0 n h.2 hk.2]
   rcases h.1 with h1|h1
   . rw[h1] at hk;cases hk.1
   . rw[h1]
 | _::r,_::s,o+1,n,h,hk=>by
   simp only[BO,Ce,Go.Ag.segm] at hk ⊢
   exact EL.segm o n h.2 hk
theorem Ro:∀ (a:List DC),(BO a).length=a.length
 |[]=>rfl
 |_::r=>by simp only[BO,AH,Ro r]
theorem EL.news:∀ (vs:List DV),EL (Go.Ag.news vs) (DV.encL vs)
 |[]=>trivial
 |_::r=>⟨.inr rfl,EL.news r⟩
theorem kr(q:Ql)(es:List (List PV)):(PV.sl q es).own=q.own':=by cases q<;>rfl
theorem kA(q:Ql)(hd:Hd)(es:List (List PV)):(PV.sl q es).bor hd=q.bor' hd:=by cases q<;>rfl
theorem zc(q:Ql)(hd:Hd)(es:List (List PV))(j o:Nat):(PV.ep q es j o).bor hd=q.bor' hd:=by cases q<;>rfl
mutual
theorem Jo:∀ (v:DV),v.enc.own=v.own
 |.any|.undef|.bool _|.int _ _|.str _|.ifc _|.box _ _|.ptr _ _=>rfl
 |.nil q=>kr q []
 |.sl q _ _=>kr q _
 |.ep q _ _ _ _=>by cases q<;>rfl
 |.agg cs=>OY cs
 |.tup vs=>OY vs
theorem OY:∀ (l:List DV),PV.ownL (DV.encL l)=DV.ownL l
 |[]=>rfl
 |v::r=>by simp only[DV.encL,PV.ownL,DV.ownL,Jo v,OY r]
end
mutual
theorem Wv(hd:Hd):∀ (v:DV),v.enc.bor hd=v.bor hd
 |.any|.undef|.bool _|.int _ _|.str _|.ifc _|.box _ _|.ptr _ _=>rfl
 |.nil q=>kA q hd []
 |.sl q _ _=>kA q hd _
 |.ep q _ _ _ _=>zc q hd _ _ _
 |.agg cs=>Z2 hd cs
 |.tup vs=>Z2 hd vs
theorem Z2(hd:Hd):∀ (l:List DV),PV.borL hd (DV.encL l)=DV.borL hd l
 |[]=>rfl
 |v::r=>by simp only[DV.encL,PV.borL,DV.borL,Wv hd v,Z2 hd r]
end
mutual
theorem zf:∀ (v:DV),v.enc.hold=v.hold
 |.any|.undef|.bool _|.int _ _|.str _|.ifc _|.box _ _|.ptr _ _=>rfl
 |.nil q=>by cases q<;>rfl
 |.sl q _ _=>by cases q<;>rfl
 |.ep q _ _ _ _=>by cases q<;>rfl
 |.agg cs=>Q9 cs
 |.tup vs=>Q9 vs
theorem Q9:∀ (l:List DV),PV.holdL (DV.encL l)=DV.holdL l
 |[]=>rfl
 |v::r=>by simp only[DV.encL,PV.holdL,DV.holdL,zf v,Q9 r]
end
mutual
theorem WS:∀ (v:DV),v.fz.enc=v.enc.fz
 |.any|.undef|.bool _|.int _ _|.str _|.ifc _|.box _ _|.ptr _ _|.nil _|.sl _ _ _|.ep _ _ _ _ _=>rfl
 |.agg cs=>by simp only[DV.fz,DV.enc,PV.fz,Pa cs]
 |.tup cs=>by simp only[DV.fz,DV.enc,PV.fz,Pa cs]
theorem Pa:∀ (l:List DV),DV.encL (DV.fzL l)=PV.fzL (DV.encL l)
 |[]=>rfl
 |v::r=>by simp only[DV.encL,PV.fzL,DV.fzL,WS v,Pa r]
end
mutual
theorem ZF:∀ (v:DV),v.detop.enc=v.enc.detop
 |.any|.undef|.bool _|.int _ _|.str _|.ifc _|.box _ _|.ptr _ _=>rfl
 |.nil q=>by cases q<;>rfl
 |.sl q _ _=>by cases q<;>rfl
 |.ep q _ _ _ _=>by cases q<;>rfl
 |.agg cs=>by simp only[DV.detop,DV.enc,PV.detop,Zn cs]
 |.tup cs=>by simp only[DV.detop,DV.enc,PV.detop,Zn cs]
theorem Zn:∀ (l:List DV),DV.encL (DV.detopL l)=PV.detopL (DV.encL l)
 |[]=>rfl
 |v::r=>by simp only[DV.encL,PV.detopL,DV.detopL,ZF v,Zn r]
end
mutual
theorem Vv:∀ (v:DV),v.enc.hasPtr=v.hasPtr
 |.any|.undef|.bool _|.int _ _|.str _|.ifc _|.box _ _|.ptr _ _|.nil _|.sl _ _ _|.ep _ _ _ _ _=>rfl
 |.agg cs=>Lo cs
 |.tup vs=>Lo vs
theorem Lo:∀ (l:List DV),PV.hasPtrL (DV.encL l)=DV.hasPtrL l
 |[]=>rfl
 |v::r=>by simp only[DV.encL,PV.hasPtrL,DV.hasPtrL,Vv v,Lo r]
end
mutual
theorem kC:∀ (t:CT) (x:t.D),t.pl=true->(CT.enc t x).deep=true
 |.int _,_,_|.bool,_,_|.str,_,_|.ifc,_,_=>rfl
 | .sl r,l,h=>by
   simp only[CT.enc,PV.deep]
   exact ZY r l h
 |.slf _,_,h=>by cases h
theorem kf:∀ (r:RT) (x:r.D),r.pl=true->PV.deepL (RT.enc r x)=true
 |.one t,x,h=>by simp only[RT.enc,PV.deepL,kC t x h,Dn]
 | .cons t r,x,h=>by
   rw[RT.pl,Ah] at h
   simp only[RT.enc,PV.deepL,kC t x.1 h.1,kf r x.2 h.2,Dn]
theorem ZY:∀ (r:RT) (l:List r.D),r.pl=true->PV.deepE (l.map (RT.enc r))=true
 |_,[],_=>rfl
 |r,x::l,h=>by simp only[Cr,PV.deepE,kf r x h,ZY r l h,Dn]
end
theorem EL.clr(hd:Hd):∀ {a:List DC} {b:List PV},EL a b->EL (Dw hd a) (Go.Ag.clr hd b)
 |[],[],_=>trivial
 | c :: _,p::_,h=>by
   refine⟨?_,EL.clr hd h.2⟩
   by_cases hb:c.v.bor hd=true
   . rw[Ac hb];exact .inl rfl
   . rw[Af hb]
     rcases h.1 with h1|h1
     . exact .inl h1
     . rw[h1,Wv,Af hb];exact .inr rfl
theorem xJ(i:Nat)(v:DV):v.enc.isBox i=v.isBox i:=by cases v<;>rfl
theorem EL.clearBox(i:Nat):∀ {a:List DC} {b:List PV},EL a b->EL (Q8 i a) (GP i b)
 |[],[],_=>trivial
 | c :: _,p::_,h=>by
   refine⟨?_,EL.clearBox i h.2⟩
   by_cases hb:c.v.isBox i=true
   . rw[Ac hb];exact .inl rfl
   . rw[Af hb]
     rcases h.1 with h1|h1
     . exact .inl h1
     . rw[h1,xJ,Af hb];exact .inr rfl
theorem EL.trim(live:List Nat):∀ {a:List DC} {b:List PV} (n:Nat),EL a b->EL (Xc live n a) (Gx live n b)
 |[],[],_,_=>trivial
 | c::_,p::_,n,h=>by
   refine⟨?_,EL.trim live (n+1) h.2⟩
   by_cases hb:live.contains n=true
   . rw[Ac hb,Ac hb];exact h.1
   . rw[Af hb];exact .inl rfl
mutual
theorem jf:∀ (v:DV),v.hasTop=false->v.detop=v
 |.any,_|.undef,_|.bool _,_|.int _ _,_|.str _,_|.ifc _,_|.box _ _,_|.ptr _ _,_=>rfl
 |.nil q,h=>by cases q<;>first|rfl|(simp only[DV.hasTop,DV.top] at h;first|(subst h;rfl)|cases h)
 |.sl q _ _,h=>by cases q<;>first|rfl|(simp only[DV.hasTop,DV.top] at h;first|(subst h;rfl)|cases h)
 |.ep q _ _ _ _,h=>by cases q<;>first|rfl|(simp only[DV.hasTop,DV.top] at h;first|(subst h;rfl)|cases h)
 |.agg cs,h=>by simp only[DV.hasTop] at h;simp only[DV.detop,ZJ cs h]
 |.tup cs,h=>by simp only[DV.hasTop] at h;simp only[DV.detop,ZJ cs h]
theorem ZJ:∀ (l:List DV),DV.hasTopL l=false->DV.detopL l=l
 |[],_=>rfl
 | v::r,h=>by
   simp only[DV.hasTopL,B7] at h
   simp only[DV.detopL,jf v h.1,ZJ r h.2]
end
theorem EL.keep(live:List Nat):∀ {a:List DC} {b:List PV} (n:Nat),EL a b->EL (WT live n a) (E2 live n b)
 |[],[],_,_=>trivial
 | c :: _,p::_,n,h=>by
   refine⟨?_,EL.keep live (n+1) h.2⟩
   by_cases hb:live.contains n=true
   . rw[Ac hb,Ac hb]
     rcases h.1 with h1|h1
     . rw[h1];exact .inl h1
     . by_cases ht:c.v.hasTop=true
       . rw[Ac ht,h1];exact .inr (ZF c.v).symm
       . rw[Af ht,h1,<- ZF,jf c.v (by simpa using ht)];exact .inr rfl
   . rw[Af hb];exact .inl rfl
theorem EL.clean:∀ {a:List DC} {b:List PV},EL a b->EL (Go.Ag.clean a) b
 |[],[],_=>trivial
 |_::_,_::_,h=>⟨h.1,EL.clean h.2⟩
theorem EBx.clean{a:List DC}{b:List PV}(h:EBx a b):EBx (Go.Ag.clean a) b:=by
 rcases h with rfl|h
 . exact .inl rfl
 . exact .inr h.clean
theorem EB.clean:∀ {a:List (List DC)} {b:List (List PV)},EB a b->EB (Po a) b
 |[],[],_=>trivial
 |_::_,_::_,h=>⟨h.1.clean,EB.clean h.2⟩
theorem ES.clean{d:DS}{s:PS}(h:ES d s):ES d.clean s:=⟨h.sl.clean,h.bx.clean,h.hp.clean⟩
theorem ES.trim{d:DS}{s:PS}(l:List Nat)(h:ES d s):ES (Xa l d) { s with sl:=Gx l 0 s.sl }:=⟨h.sl.trim l 0,h.bx,h.hp⟩
theorem ES.keep{d:DS}{s:PS}(l:List Nat)(h:ES d s):ES (Ew l d) { s with sl:=E2 l 0 s.sl }:=⟨h.sl.keep l 0,h.bx,h.hp⟩
theorem EL.rem:∀ {x a:List DC} {b:List PV},EL a b->EL (PO x a) b
 |[],[],[],_=>trivial
 |[],_::_,_::_,h=>h
 |_::_,[],[],_=>trivial
 |_::_,_::_,_::_,h=>⟨h.1,EL.rem h.2⟩
theorem EBx.rem{x a:List DC}{b:List PV}(h:EBx a b):EBx (PO x a) b:=by
 rcases h with rfl|h
 . cases x<;>exact .inl rfl
 . exact .inr h.rem
theorem EB.rem:∀ {x a:List (List DC)} {b:List (List PV)},EB a b->EB (SK x a) b
 |[],[],[],_=>trivial
 |[],_::_,_::_,h=>h
 |_::_,[],[],_=>trivial
 |_::_,_::_,_::_,h=>⟨h.1.rem,EB.rem h.2⟩
theorem ES.rem{x d:DS}{s:PS}(h:ES d s):ES (L5 x d) s:=⟨h.sl.rem,h.bx.rem,h.hp.rem⟩
theorem ES.put{d:DS}{s:PS}(x:Option Nat)(v:DV)(h:ES d s):ES (d.put x v) (s.put x v.enc):=by
 cases x with
 |none=>exact h
 | some n=>
   simp only[DS.put,PS.put,Jo];by_cases ho:v.own=true
   . rw[Ac ho,Ac ho];exact⟨(h.sl.put n (.inr rfl)).clr _,h.bx,h.hp⟩
   . rw[Af ho,Af ho];exact⟨h.sl.put n (.inr rfl),h.bx,h.hp⟩
theorem Rc(v:V)(h:JG v≠.any):(JG v).enc=Ca v:=by
 cases v<;>first|rfl|skip
 case tup vs=>cases vs<;>rfl
theorem Fm{d:DS}{s:PS}(x:Opnd)(h:ES d s)(hk:(Bo x d).1.ok=true):(mvOut x s).1=(Bo x d).1.enc/\ES (Bo x d).2 (mvOut x s).2:=by
 cases x with
 | c v=>
   refine⟨?_,h⟩;refine(Rc v λ he=>?_).symm;simp only[Bo,he,DV.ok,AK] at hk
 | t n =>
   simp only[Bo,SM,mvOut,He] at hk ⊢;rcases h.sl.get n with hg|hg
   . rw[hg] at hk;simp only[DV.own,AK,AS,DV.ok] at hk
   . rw[hg,Jo,Wv];by_cases ho:(Bq d.sl n).own=true
     . simp only[ho,AO] at hk ⊢;by_cases hb:(Bq d.sl n).bor (.s n)=true
       . simp only[hb,AO,DV.ok,AK] at hk
       . simp only[hb] at hk ⊢;exact⟨rfl,(h.sl.put n (.inl rfl)).clr _,h.bx,h.hp⟩
     . simp only[ho] at hk ⊢;exact⟨rfl,h⟩
theorem yT(v:DV)(h:v.cell=true):v.enc.cell=true:=by
 cases v<;>first|rfl|cases h|skip
 case nil q=>cases q<;>first|rfl|cases h
 case sl q r l=>cases q<;>first|rfl|cases h
theorem MF:∀ (l:List DV),DU l=true->Co (DV.encL l)=true
 |[],_=>rfl
 | v::r,h=>by
   simp only[DU,Ah] at h
   simp only[DV.encL,Co,yT v h.1,MF r h.2,Dn]
theorem Zao(v:DV)(h:v.cell=true):v.ok=true:=by cases v<;>first|rfl|cases h
theorem iu:∀ (l:List DV),DU l=true->DV.okL l=true
 |[],_=>rfl
 | v::r,h=>by
   simp only[DU,Ah] at h
   simp only[DV.okL,Zao v h.1,iu r h.2,Dn]
theorem Lu(v:DV):v.enc.cells=DV.encL v.cells:=by cases v<;>rfl
theorem Rj(v:DV)(h:DU v.cells=true):v.ok=true:=by
 cases v<;>first|rfl|(simp only[DV.cells,DU,DV.cell,Nh,AK] at h)|skip
 case agg cs=>exact iu cs h
theorem aj(v:DV)(h:v.retc=true):v.enc.retc=true:=by
 cases v<;>first|rfl|cases h|skip
 case nil q=>cases q<;>first|rfl|cases h
 case sl q r l=>cases q<;>first|rfl|cases h
theorem VW:∀ (l:List DV),JB l=true->FA (DV.encL l)=true
 |[],_=>rfl
 | v::r,h=>by
   simp only[JB,Ah] at h
   simp only[DV.encL,FA,aj v h.1,VW r h.2,Dn]
theorem iG(v:DV)(h:v.retok=true):v.enc.retok=true:=by
 cases v<;>first|rfl|cases h|skip
 case nil q=>exact aj (.nil q) h
 case sl q r l=>exact aj (.sl q r l) h
 case agg cs=>exact VW cs h
theorem jV(v:DV)(h:v.argc=true):v.enc.argc=true:=by cases v<;>first|rfl|cases h
theorem jF:∀ (l:List DV),Xb l=true->JD (DV.encL l)=true
 |[],_=>rfl
 | v::r,h=>by
   simp only[Xb,Ah] at h
   simp only[DV.encL,JD,jV v h.1,jF r h.2,Dn]
theorem im(v:DV)(h:v.argok=true):v.enc.argok=true:=by
 cases v<;>first|rfl|cases h|exact jV _ h|skip
 case agg cs=>exact jF cs h
theorem VA:∀ (l:List DV),Ih l=true->Js (DV.encL l)=true
 |[],_=>rfl
 | v::r,h=>by
   simp only[Ih,Ah] at h
   simp only[DV.encL,Js,im v h.1,VA r h.2,Dn]
theorem Opnd.dev_ev{d:DS}{s:PS}(h:ES d s)(x:Opnd):EV (x.dev d.sl) (x.pev s.sl):=by
 cases x with
 |t n=>exact h.sl.get n
 | c v=>
   by_cases hv:JG v= .any
   . exact .inl hv
   . exact .inr (Rc v hv).symm
theorem EV.of{v:DV}{p:PV}(h:EV v p)(hn:v≠.any):p=v.enc:=h.resolve_left hn
theorem tO{op:BinOp}{k:IntKind}{a b:Int}{g:PX}{v:DV}(h:Wj op k a b=some (g,v))(hg:g.den):(Jr op k a b).map PV.fl=some v.enc:=by
 cases op<;>simp only[Wj,dI,dB,Ak,Am,reduceCtorEq] at h<;>obtain⟨rfl,rfl⟩:=h<;>simp only[Jr,lO,ln,lE,Za8,l7,bD,mb,lI,iQ,W9,mH,my,mE,ma,mg,DV.enc,BX.b,Cq]
 . rw[Af (show ¬ b=0 from hg)];rfl
 . rw[Af (show ¬ b=0 from hg)];rfl
theorem fN{op:BinOp}{k:IntKind}{a b:Int}{g:PX}{v:DV}(h:WG op k a b=some (g,v))(hg:g.den):(ML op k a b).map PV.fl=some v.enc:=by
 cases op<;>simp only[WG,Ak,Am,reduceCtorEq] at h<;>obtain⟨rfl,rfl⟩:=h<;>simp only[ML,lu,lY,DV.enc]<;>rw[Af (show ¬ b<0 from Int.not_lt.mpr hg)]<;>rfl
theorem Wk{k k':IntKind}(h:IntKind.same k k'=true):k=k':=by simpa [IntKind.same] using h
theorem wv{op:BinOp}{a b:DV}{p q:PV}{g:PX}{v:DV}(ha:EV a p)(hb:EV b q)(h:PN op a b=some (g,v))(hg:g.den):PF op p q=some v.enc:=by
 cases a<;>try (simp only[PN,reduceCtorEq] at h)
 case int k a=>
  cases b<;>try (simp only[PN,reduceCtorEq] at h)
  case int k' b=>
   rw[ha.of (by simp),hb.of (by simp)];simp only[DV.enc,PF,ID];by_cases h1:op= .shl
   . subst h1;exact fN h hg
   . by_cases h2:op= .shr
     . subst h2;exact fN h hg
     . have h3:(if IntKind.same k k'=true then Wj op k a b else none)=some (g,v):=by cases op<;>first|exact h|exact absurd rfl h1|exact absurd rfl h2
       by_cases hk:IntKind.same k k'=true
       . rw[Ac hk] at h3;have:=Wk hk;subst this;have h4:=tO h3 hg
         cases op<;>simp only[AO]<;>first|exact h4|exact absurd rfl h1|exact absurd rfl h2
       . rw[Af hk] at h3;cases h3
 case str a=>
  cases b<;>try (simp only[PN,reduceCtorEq] at h)
  case str b=>
   rw[ha.of (by simp),hb.of (by simp)];cases op<;>simp only[PN,dB,Ak,Am,reduceCtorEq] at h<;>obtain⟨rfl,rfl⟩:=h<;>simp only[DV.enc,PF,ID,lS,mi,mI,BX.b,Cq];rw[Ac (show a.length+b.length<=9223372036854775807 from hg)];rfl
theorem cz(x:BX):x.not.b=!x.b:=by cases x<;>simp only[BX.not,BX.b,Ps]
theorem ZbM(x y:BX):(x.eq y).b=(x.b == y.b):=by
 cases x with
 | lit a=>cases y with
   |lit b=>rfl
   |dyn b=>cases a<;>cases b<;>simp only[BX.eq,BX.b,Ps]<;>rfl
 | dyn a=>cases y with
   |lit b=>cases a<;>cases b<;>simp only[BX.eq,BX.b,Ps]<;>rfl
   |dyn b=>simp only[BX.eq,BX.b,kV]
theorem we{neg:Bool}{a b:DV}{p q:PV}{g:PX}{v:DV}(ha:EV a p)(hb:EV b q)(h:Xz neg a b=some (g,v)):Sp neg p q=some v.enc:=by
 cases a<;>try (simp only[Xz,reduceCtorEq] at h)
 case bool a=>
  cases b<;>try (simp only[Xz,reduceCtorEq] at h)
  case bool b=>
   rw[ha.of (by simp),hb.of (by simp)];simp only[FG,Ak,Am] at h;obtain⟨rfl,rfl⟩:=h;cases neg<;>simp only[DV.enc,Sp,AO,AK,AS,cz,ZbM]
theorem wj{neg:Bool}{a:DV}{p:PV}{g:PX}{v:DV}(ha:EV a p)(h:di neg a=some (g,v)):Sw neg p=some v.enc:=by
 cases a<;>try (simp only[di,reduceCtorEq] at h)
 case ifc a=>
  rw[ha.of (by simp)];simp only[dB,Ak,Am] at h;obtain⟨rfl,rfl⟩:=h;cases neg<;>simp only[DV.enc,Sw,AO,AK,AS,Ps,BX.b]
theorem xN{op:UnOp}{a:DV}{p:PV}{g:PX}{v:DV}(ha:EV a p)(h:dt op a=some (g,v)):SB op p=some v.enc:=by
 cases op<;>cases a<;>simp only[dt,FG,dI,Ak,Am,reduceCtorEq] at h<;>obtain⟨rfl,rfl⟩:=h<;>rw[ha.of (by simp)]<;>simp only[DV.enc,SB,Mc,Cq,cz,ZaT]
theorem vB{k:IntKind}{a:DV}{p:PV}{g:PX}{v:DV}(ha:EV a p)(h:cW k a=some (g,v)):RP k p=some v.enc:=by
 cases a<;>simp only[cW,dI,Ak,Am,reduceCtorEq] at h;obtain⟨rfl,rfl⟩:=h;rw[ha.of (by simp)];simp only[DV.enc,RP,zO]
theorem uB{a:DV}{p:PV}{g:PX}{v:DV}(ha:EV a p)(h:bE a=some (g,v)):Wh p=some v.enc:=by
 cases a<;>simp only[bE,FG,Ak,Am,reduceCtorEq] at h<;>obtain⟨rfl,rfl⟩:=h<;>rw[ha.of (by simp)]<;>rfl
theorem tM{off:Nat}{a:DV}{p:PV}{g:PX}{v:DV}(ha:EV a p)(h:aV off a=some (g,v)):VP off p=some v.enc:=by
 cases a<;>simp only[aV,FG,Ak,Am,reduceCtorEq] at h<;>obtain⟨rfl,rfl⟩:=h<;>rw[ha.of (by simp)]<;>rfl
theorem wc{a:DV}{p:PV}{g:PX}{v:DV}(ha:EV a p)(h:dc a=some (g,v)):Sa p=some v.enc:=by
 cases a<;>simp only[dc,dI,Ak,Am,reduceCtorEq] at h<;>obtain⟨rfl,rfl⟩:=h<;>rw[ha.of (by simp)]<;>simp only[DV.enc,Sa,A6,bU,AJ]<;>rfl
theorem vg{a:DV}{p:PV}{g:PX}{v:DV}(ha:EV a p)(h:cD a=some (g,v)):R5 p=some v.enc:=by
 cases a<;>simp only[cD,dI,Ak,Am,reduceCtorEq] at h;obtain⟨rfl,rfl⟩:=h;rw[ha.of (by simp)];simp only[DV.enc,R5,bU]
theorem uG{a b:DV}{p q:PV}{g:PX}{v:DV}(ha:EV a p)(hb:EV b q)(h:WZ a b=some (g,v))(hg:g.den):RA p q=some v.enc:=by
 cases a<;>try (simp only[WZ,reduceCtorEq] at h)
 cases b<;>simp only[WZ,Ak,Am,reduceCtorEq] at h;obtain⟨rfl,rfl⟩:=h;rw[ha.of (by simp),hb.of (by simp)];simp only[DV.enc,RA,Zbr];exact Ac hg
theorem M8:∀ (r:RT) (x:r.D),(RT.enc r x).length=r.w
 |.one _,_=>rfl
 |.cons _ r,x=>by simp only[RT.enc,AH,RT.w,M8 r x.2]
theorem FT(r:RT):∀ (l:List r.D),C9 r.w (l.map (RT.enc r))=true
 |[]=>rfl
 |x::l=>by simp only[Cr,C9,M8,beq_self_eq_true,FT r l,Dn]
theorem tY{w:Nat}{x:Opnd}{a b:DV}{p q:PV}{g:PX}{v:DV}(ha:EV a p)(hb:EV b q)(h:Rs w x a b=some (g,v))(hg:g.den):Rm w x p q=some v.enc:=by
 cases a<;>try (simp only[Rs,reduceCtorEq] at h)
 case sl q' r l=>
  cases b<;>try (simp only[Rs,reduceCtorEq] at h)
  case int k j=>
   rw[ha.of (by simp),hb.of (by simp)];by_cases hw:(r.w == w)=true
   . rw[Ac hw] at h
     have hw':r.w=w:=by simpa using hw
     subst hw'
     cases hq:Fx x q' with
     |none=>rw[hq] at h;cases h
     | some q2=>
       rw[hq] at h;simp only[Ak,Am] at h;obtain⟨rfl,rfl⟩:=h;simp only[DV.enc,Rm,A6,bW];rw[Ac ⟨hg.1,hg.2,FT r l⟩,hq];rfl
   . rw[Af hw] at h;cases h
 case nil q'=>cases b<;>simp only[Rs,reduceCtorEq] at h
theorem v7{a b:DV}{p q:PV}{g:PX}{v:DV}(ha:EV a p)(hb:EV b q)(h:dk a b=some (g,v)):Ss p q=some v.enc:=by
 unfold dk at h;split at h
 . simp only[dI,Ak,Am] at h;obtain⟨rfl,rfl⟩:=h;rw[ha.of (by simp),hb.of (by simp)];simp only[DV.enc,Ss,Za3]
 . cases h
theorem vU{a b:DV}{p q:PV}{g:PX}{v:DV}(ha:EV a p)(hb:EV b q)(h:c9 a b=some (g,v)):Sl p q=some v.enc:=by
 unfold c9 at h;split at h
 . simp only[dI,Ak,Am] at h;obtain⟨rfl,rfl⟩:=h;rw[ha.of (by simp),hb.of (by simp)];simp only[DV.enc,Sl,cw]
 . cases h
theorem land_den(a b:PX):(a.land b).den↔a.den/\b.den:=by
 cases a<;>cases b<;>simp[PX.land,PX.den]
theorem U1{d:Nat}{x:Option DV}{y:Option PV}{g:PX}{n:Nat}(hx:match x,y with|none,none=>True|some v,some p=>EV v p|_,_=>False)(h:IA d x=some (g,n))(hg:g.den):KM d y=some n:=by
 cases x with
 | none=>
   cases y with
   |none=>simp only[IA,Ak,Am] at h;rw[<- h.2];rfl
   |some p=>cases hx
 | some v=>
   cases y with
   |none=>cases hx
   | some p=>
     cases v<;>simp only[IA,Ak,Am,reduceCtorEq] at h;obtain⟨rfl,rfl⟩:=h;rw[EV.of hx (by simp)];simp only[DV.enc,KM,bW];exact Ac hg
theorem ub{lo hi:Option DV}{lo' hi':Option PV}{a:DV}{p:PV}{g:PX}{v:DV}(hl:match lo,lo' with|none,none=>True|some v,some p=>EV v p|_,_=>False)(hh:match hi,hi' with|none,none=>True|some v,some p=>EV v p|_,_=>False)(ha:EV a p)(h:aS lo hi a=some (g,v))(hg:g.den):Rn lo' hi' p=some v.enc:=by
 cases a<;>try (simp only[aS,reduceCtorEq] at h)
 case str t=>
  rw[ha.of (by simp)]
  cases h1:IA 0 lo with
  |none=>rw[h1] at h;cases h
  | some x=>
    cases h2:IA (lN t) hi with
    |none=>rw[h1,h2] at h;cases h
    | some y=>
      obtain⟨g1,a⟩:=x;obtain⟨g2,b⟩:=y;rw[h1,h2] at h;simp only[Ak,Am] at h;obtain⟨rfl,rfl⟩:=h;rw[land_den,land_den] at hg;have e1:=U1 hl h1 hg.1.1;have e2:=U1 hh h2 hg.1.2;simp only[SG] at e2;simp only[DV.enc,Rn,e1,e2,bI];exact Ac hg.2
theorem uo{w:Nat}{x:Opnd}{lo hi:Option DV}{lo' hi':Option PV}{a:DV}{p:PV}{g:PX}{v:DV}(hl:match lo,lo' with|none,none=>True|some v,some p=>EV v p|_,_=>False)(hh:match hi,hi' with|none,none=>True|some v,some p=>EV v p|_,_=>False)(ha:EV a p)(h:bS w x lo hi a=some (g,v))(hg:g.den):Ry w x lo' hi' p=some v.enc:=by
 cases a<;>try (simp only[bS,reduceCtorEq] at h)
 case sl q r t=>
  rw[ha.of (by simp)]
  cases h1:IA 0 lo with
  |none=>rw[h1] at h;cases h
  | some x1 =>
    cases h2:IA (lN t) hi with
    |none=>rw[h1,h2] at h;cases h
    | some y=>
      obtain⟨g1,a⟩:=x1;obtain⟨g2,b⟩:=y;rw[h1,h2] at h;simp only at h;by_cases hw:(r.w == w)=true
      . rw[Ac hw] at h
        have hw':r.w=w:=by simpa using hw
        subst hw'
        cases hq:mU x lo.isNone q with
        |none=>rw[hq] at h;cases h
        | some q'=>
          rw[hq] at h;simp only[Ak,Am] at h;obtain⟨rfl,rfl⟩:=h;rw[land_den,land_den] at hg;have e1:=U1 hl h1 hg.1.1;have e2:=U1 hh h2 hg.1.2;simp only[SG] at e2
          have hz:FE x (if lo'.isNone=true then 0 else 1) q=some q':=by
           have:lo'.isNone=lo.isNone:=by cases lo<;>cases lo'<;>first|rfl|exact hl.elim
           rw[this];exact hq
          simp only[DV.enc,Ry,A6,e1,e2,bI,hz];rw[Ac ⟨hg.2.1,hg.2.2.1,hg.2.2.2,FT r t⟩,W5,List.map_drop];rfl
      . rw[Af hw] at h;cases h
theorem yz(hd:Hd)(p:List Nat)(v:DV):(cG hd p v).enc=C4 hd p v.enc:=by
 cases v<;>first|rfl|skip
 case nil q=>cases q<;>rfl
 case sl q r l=>cases q<;>rfl
theorem Rg(hd:Hd):∀ (n:Nat) (l:List DV),DV.encL (Ju hd n l)=G9 hd n (DV.encL l)
 |_,[]=>rfl
 |n,v::r=>by simp only[Ju,DV.encL,G9,yz,Rg hd (n+1) r]
theorem OR{n:Option Nat}{cs:List DV}{v:DV}(h:FW n cs=some v):D4 n (DV.encL cs)=some v.enc:=by
 cases n with
 |some n=>simp only[FW,Ak] at h;subst h;rfl
 | none=>match cs,h with
   |[x],h=>simp only[FW,Ak] at h;subst h;rfl
theorem uR{off:Nat}{n:Option Nat}{x:Opnd}{a:DV}{p:PV}{g:PX}{v:DV}(ha:EV a p)(h:ck off n x a=some (g,v)):Ru off n x p=some v.enc:=by
 cases a<;>try (simp only[ck,reduceCtorEq] at h)
 case agg cs=>
  rw[ha.of (by simp)]
  cases x with
  |c _=>cases h
  | t t =>
    simp only at h;by_cases hc:(Nat.ble (off+n.getD 1) cs.length&&DV.okL (Ce cs off (n.getD 1)))=true
    . rw[Ac hc] at h;rw[Ah] at hc
      cases hv:FW n (Ju (.s t) off (Ce cs off (n.getD 1))) with
      |none=>rw[hv] at h;cases h
      | some w=>
        rw[hv] at h;simp only[Cq,Ak,Am] at h;obtain⟨rfl,rfl⟩:=h;have:=OR hv;rw[Rg,VM] at this;simp only[DV.enc,Ru,ET];rw[Ac (Dc hc.1)];exact this
    . rw[Af hc] at h;cases h
theorem uz:∀ {r:RT} {l:List r.D} {s:List UInt8},WL r l=some s->Cn (l.map (RT.enc r))=some s
 | .one (.int .u8),l,s,h=>by
   simp only[WL,Ak] at h
   subst h
   refine Eq.trans ?_ (congrArg some (ZaU l).symm)
   induction l with
   |nil=>rfl
   | cons x l ih=>
     show (Cn (l.map (RT.enc (.one (.int .u8))))).map (λ s=>UInt8.ofNat (Int.toNat x)::s)=_
     rw[ih];rfl
theorem vC{a:DV}{p:PV}{g:PX}{v:DV}(ha:EV a p)(h:cU a=some (g,v)):RJ p=some v.enc:=by
 cases a<;>try (simp only[cU,reduceCtorEq] at h)
 case nil q=>
  rw[ha.of (by simp)];simp only[FG,Ak,Am] at h;obtain⟨rfl,rfl⟩:=h;rfl
 case sl q r l=>
  rw[ha.of (by simp)]
  cases hs:WL r l with
  |none=>rw[hs] at h;cases h
  | some s=>
    rw[hs] at h;simp only[Cq,Ak,Am] at h;obtain⟨rfl,rfl⟩:=h;simp only[DV.enc,RJ,uz hs,Cq]
theorem eM:∀ {a b:List DV} {t:BX},Lz a b=some t->∃ x y,Ex (DV.encL a)=some x/\Ex (DV.encL b)=some y/\x.length=a.length/\y.length=b.length/\x.all V.flat=true/\y.all V.flat=true/\Es x y=some t.b
 | [],[],t,h=>by
   simp only[Lz,Ak] at h;subst h;exact⟨[],[],rfl,rfl,rfl,rfl,rfl,rfl,rfl⟩
 | .int k a::x,.int k' b::y,t,h=>by
   unfold Lz at h;by_cases hk:IntKind.same k k'=true
   . rw[Ac hk] at h;have:=Wk hk;subst this
     have key:∀ t',Lz x y=some t'->t.b=((a == b)&&t'.b)->∃ x1 y1,Ex (DV.encL (.int k a::x))=some x1/\Ex (DV.encL (.int k b::y))=some y1/\x1.length=(DV.int k a::x).length/\y1.length=(DV.int k b::y).length/\x1.all V.flat=true/\y1.all V.flat=true/\Es x1 y1=some t.b:=by
      intro t' ht hb;obtain⟨x1,y1,h1,h2,h3,h4,h5,h6,h7⟩:=eM ht;refine⟨.int k a::x1,.int k b::y1,?_,?_,by simp[h3],by simp[h4],?_,?_,?_⟩
      . simp only[DV.encL,DV.enc,Ex,h1]
      . simp only[DV.encL,DV.enc,Ex,h2]
      . simp only[Gp,V.flat,h5,Dn]
      . simp only[Gp,V.flat,h6,Dn]
      . simp only[Es,Px,AO]
        cases hab:(a == b) with
        |true=>simp only[h7,hb,hab,LQ]
        |false=>simp only[hb,hab,Xh]
     split at h
     . simp only[Ak] at h;subst h;exact key (.lit true) rfl (by simp only[BX.b,W9,Nh])
     . cases ht:Lz x y with
       |none=>rw[ht] at h;cases h
       | some t'=>
         rw[ht] at h;simp only[Cq,Ak] at h;subst h;exact key t' ht (by simp only[BX.b,W9,cy])
   . rw[Af hk] at h;cases h
theorem wu{n:Nat}{neg:Bool}{a b:DV}{p q:PV}{g:PX}{v:DV}(ha:EV a p)(hb:EV b q)(h:Xw n neg a b=some (g,v)):Sm n neg p q=some v.enc:=by
 cases a<;>try (simp only[Xw,reduceCtorEq] at h)
 case agg a=>
  cases b<;>try (simp only[Xw,reduceCtorEq] at h)
  case agg b=>
   rw[ha.of (by simp),hb.of (by simp)];by_cases hl:(a.length == n&&b.length == n)=true
   . rw[Ac hl] at h;rw[Ah,AV,AV] at hl
     cases ht:Lz a b with
     |none=>rw[ht] at h;cases h
     | some t=>
       rw[ht] at h;simp only[FG,Ak,Am] at h;obtain⟨rfl,rfl⟩:=h;obtain⟨x,y,h1,h2,h3,h4,h5,h6,h7⟩:=eM ht;simp only[DV.enc,Sm,h1,h2];rw[Ac ⟨h3.trans hl.1,h4.trans hl.2,h5,h6⟩,h7];cases neg<;>simp only[Cq,AO,AK,AS,cz]
   . rw[Af hl] at h;cases h
theorem WI{d:DS}{s:PS}(h:ES d s)(x:Option Opnd):match x.map (λ x=>x.dev d.sl),x.map (λ x=>x.pev s.sl) with|none,none=>True|some v,some p=>EV v p|_,_=>False:=by
 cases x with
 |none=>exact trivial
 |some x=>exact x.dev_ev h
theorem EK{s:PS}{o:Option PV}{v:PV}(h:o=some v):DB s o=some (v,s):=by rw[h];rfl
theorem vF{d:DS}{s:PS}{o:AOp}{m:Bool}{g:PX}{v:DV}(hs:ES d s)(h:PA o (λ x=>x.dev d.sl)=some (g,v))(hg:g.den):BC m o s=some (v.enc,s):=by
 have E:=λ x=>Opnd.dev_ev hs x
 cases o<;>simp only[PA,reduceCtorEq] at h<;>simp only[BC]
 case nilck x=>exact EK (uB (E x) h)
 case bin op x y=>exact EK (wv (E x) (E y) h hg)
 case eqB neg x y=>exact EK (we (E x) (E y) h)
 case eqN neg x y=>
  split at h
  . exact EK (wj (E x) h)
  . cases h
 case eqA n neg x y=>exact EK (wu (E x) (E y) h)
 case un op x=>exact EK (xN (E x) h)
 case conv k x=>exact EK (vB (E x) h)
 case bstr x=>exact EK (vC (E x) h)
 case slice w x lo hi=>exact EK (uo (WI hs lo) (WI hs hi) (E x) h hg)
 case substr x lo hi=>exact EK (ub (WI hs lo) (WI hs hi) (E x) h hg)
 case fieldA off a=>exact EK (tM (E a) h)
 case field off n x=>exact EK (uR (E x) h)
 case indexA w x i=>exact EK (tY (E x) (E i) h hg)
 case index x i=>exact EK (uG (E x) (E i) h hg)
 case len x=>exact EK (wc (E x) h)
 case lenT x=>exact EK (vg (E x) h)
 case minI x y=>exact EK (v7 (E x) (E y) h)
 case maxI x y=>exact EK (vU (E x) (E y) h)
theorem aA:∀ (l:List DV),DV.okL l=true->EL (news (PC l)) (Dh (DV.encL l))
 |[],_=>trivial
 | v::r,h=>by
   simp only[DV.okL,Ah] at h
   refine⟨?_,aA r h.2⟩
   simp only[Jo]
   by_cases ho:v.own=true
   . rw[Ac ho,Ac ho];exact .inl rfl
   . rw[Af ho,Af ho];exact .inr rfl
theorem EL.spliceE:∀ {a:List DC} {b:List PV} (n:Nat) {vs:List DV} {ps:List PV},EL a b->EL (Go.Ag.news vs) ps->EL (Jk a n vs) (AN b n ps)
 |[],[],_,[],[],_,_=>trivial
 |[],[],_,_::_,_::_,_,_=>trivial
 |_::_,_::_,0,[],[],h,_=>h
 |_::_,_::_,_+1,[],[],h,_=>h
 |_::_,_::_,0,_::_,_::_,h,hv=>⟨hv.1,EL.spliceE 0 h.2 hv.2⟩
 |_::_,_::_,n+1,_::_,_::_,h,hv=>⟨h.1,EL.spliceE n h.2 hv⟩
theorem EBx.to{a:List DC}{b:List PV}(h:EBx a b)(hn:0<a.length):EL a b:=by
 rcases h with rfl|h
 . exact absurd hn (Nat.lt_irrefl 0)
 . exact h
theorem EBx.segm{a:List DC}{b:List PV}{o n:Nat}(h:EBx a b)(hl:o+n<=a.length)(hk:DV.okL (Ce (BO a) o n)=true):o+n<=b.length/\Go.Ag.segm b o n=DV.encL (Ce (BO a) o n):=by
 rcases h with rfl|h
 . have h0:o=0/\n=0:=by simp only[AJ] at hl;omega
   rw[h0.1,h0.2];exact⟨Gt _,by cases b<;>rfl⟩
 . exact⟨by rw[<- h.len];exact hl,h.segm o n hk⟩
theorem EBx.splice{a:List DC}{b:List PV}{o:Nat}{vs:List DV}{ps:List PV}(h:EBx a b)(hv:EL (news vs) ps)(hl:o+vs.length<=a.length):EBx (Jk a o vs) (AN b o ps):=by
 rcases h with rfl|h
 . have h0:vs=[]:=by
    cases vs with
    |nil=>rfl
    |cons _ _=>simp only[AH,AJ] at hl;omega
   subst h0;exact .inl rfl
 . exact .inr (h.spliceE o hv)
theorem VD:∀ (l:List DV) (o n:Nat),o+n<=l.length->(Ce l o n).length=n
 |[],0,0,_=>rfl
 |[],0,_+1,h=>by simp only[AJ] at h;omega
 |[],_+1,_,h=>by simp only[AJ] at h;omega
 |_::_,0,0,_=>rfl
 |_::r,0,n+1,h=>by simp only[Ce,AH] at h ⊢;rw[VD r 0 n (by omega)]
 |_::r,o+1,n,h=>by simp only[Ce,AH] at h ⊢;exact VD r o n (by omega)
theorem ZA:∀ (l:List DV),(PC l).length=l.length
 |[]=>rfl
 |_::r=>by simp only[PC,AH,ZA r]
theorem YZ{m:Bool}{i:Nat}{n:Option Nat}{a:DV}{p:PV}{d d':DS}{s:PS}{g:PX}{v:DV}(hs:ES d s)(ha:EV a p)(h:LP m i n a d=some (g,v,d')):∃ s',Jm m i n p s=some (v.enc,s')/\ES d' s':=by
 cases a<;>try (simp only[LP,reduceCtorEq] at h)
 case box j o=>
  rw[ha.of (by simp)];by_cases hc:(i == j&&Nat.ble (o+n.getD 1) (BH d.bx i).length&&DV.okL (Ce (BO (BH d.bx i)) o (n.getD 1)))=true
  . rw[Ac hc] at h;rw[Ah,Ah,AV] at hc;obtain⟨⟨rfl,hl⟩,hk⟩:=hc;have hl:=Dc hl;obtain⟨h1,h2⟩:=(hs.bx.get i).segm hl hk;simp only[DV.enc,Jm];rw[Ac ⟨trivial,h1⟩,h2]
    cases m with
    | true=>
      simp only[AO] at h ⊢
      cases hv:FW n (Ce (BO (BH d.bx i)) o (n.getD 1)) with
      |none=>rw[hv] at h;cases h
      | some w=>
        rw[hv] at h;simp only[Cq,Ak,Am] at h;obtain⟨_,rfl,rfl⟩:=h;rw[OR hv];refine⟨_,rfl,hs.sl.clr _,hs.bx.put i ((hs.bx.get i).splice (aA _ hk) ?_),hs.hp⟩;rw[ZA,VD _ _ _ (by rw[Ro];exact hl)];exact hl
    | false=>
      simp only[AK,AS] at h ⊢
      cases hv:FW n (Ju (.b i) o (Ce (BO (BH d.bx i)) o (n.getD 1))) with
      |none=>rw[hv] at h;cases h
      | some w=>
        rw[hv] at h;simp only[Cq,Ak,Am] at h;obtain⟨_,rfl,rfl⟩:=h;have:=OR hv;rw[Rg] at this;rw[this];exact⟨_,rfl,hs⟩
  . rw[Af hc] at h;cases h
theorem lL{q q':Ql}(h:Nn q=some q'):∀ (t:CT) (x:t.D),(CT.dv q' t x).enc=KV q (CT.enc t x)
 |.int _,_|.bool,_|.str,_=>by cases q<;>rfl
 |.ifc,_=>by cases q<;>rfl
 |.sl r,l=>by cases q<;>simp only[Nn,Ak,reduceCtorEq] at h<;>subst h<;>rfl
 |.slf r,l=>by cases q<;>simp only[Nn,Ak,reduceCtorEq] at h<;>subst h<;>rfl
theorem lX{q q':Ql}(h:Nn q=some q'):∀ (r:RT) (x:r.D),DV.encL (r.dv q' x)=F0 q (RT.enc r x)
 |.one t,x=>by simp only[RT.dv,DV.encL,RT.enc,F0,lL h t x]
 |.cons t r,x=>by simp only[RT.dv,DV.encL,RT.enc,F0,lL h t x.1,lX h r x.2]
theorem MP(r:RT):∀ (l:List r.D) (j:Nat),j<l.length->Ch (l.map (RT.enc r)) j=RT.enc r (l.getD j r.dflt)
 |_::_,0,_=>rfl
 |_::l,j+1,h=>MP r l j (by simpa using h)
theorem ZT(q:Ql):∀ (l:List PV) (o n:Nat),F0 q (Go.Ag.segm l o n)=Go.Ag.segm (F0 q l) o n
 |[],0,0=>rfl
 |[],0,_+1=>rfl
 |[],_+1,_=>rfl
 |_::_,0,0=>rfl
 |c::r,0,n+1=>by simp only[Go.Ag.segm,F0,ZT q r 0 n]
 |_::r,o+1,n=>by simp only[Go.Ag.segm,F0];exact ZT q r o n
theorem vY{q q':Ql}(h:Nn q=some q'):q.isOwn=false:=by cases q<;>first|rfl|cases h
theorem Y8{m:Bool}{n:Option Nat}{a:DV}{p:PV}{d d':DS}{s:PS}{g:PX}{v:DV}(hs:ES d s)(ha:EV a p)(h:KL m n a d=some (g,v,d'))(hg:g.den):∃ s',Iq m n p s=some (v.enc,s')/\ES d' s':=by
 cases a<;>try (simp only[KL,reduceCtorEq] at h)
 case ep q r l j o=>
  rw[ha.of (by simp)]
  cases hq:Nn q with
  |none=>rw[hq] at h;cases h
  | some q'=>
    rw[hq] at h;simp only at h;by_cases hc:Nat.ble (o+n.getD 1) r.w=true
    . rw[Ac hc] at h
      cases hv:FW n (Ce (r.dv q' (lGet l j r.dflt)) o (n.getD 1)) with
      |none=>rw[hv] at h;cases h
      | some w=>
        rw[hv] at h;simp only[Cq,Ak,Am] at h;obtain⟨rfl,rfl,rfl⟩:=h;have hj:j<l.length:=hg;have:=OR hv;rw[VM,lX hq,<- ZT,bB,<- MP r l j hj] at this;simp only[DV.enc,Iq,A6];rw[Ac ⟨hj,by rw[MP r l j hj,M8];exact Dc hc,vY hq⟩,this];exact⟨_,rfl,hs⟩
    . rw[Af hc] at h;cases h
 case ptr i o=>
  rw[ha.of (by simp)];by_cases hc:(Nat.blt i d.hp.length&&Nat.ble (o+n.getD 1) (BH d.hp i).length&&DV.okL (Ce (BO (BH d.hp i)) o (n.getD 1)))=true
  . rw[Ac hc] at h;rw[Ah,Ah] at hc;obtain⟨⟨hi,hl⟩,hk⟩:=hc;have hi:=Dc hi;have hl:=Dc hl;obtain⟨h1,h2⟩:=(hs.hp.get i).segm hl hk;simp only[DV.enc,Iq];rw[Ac ⟨by rw[<- hs.hp.len];exact hi,h1⟩,h2]
    cases m with
    | true=>
      simp only[AO] at h ⊢
      cases hv:FW n (Ce (BO (BH d.hp i)) o (n.getD 1)) with
      |none=>rw[hv] at h;cases h
      | some w=>
        rw[hv] at h;simp only[Cq,Ak,Am] at h;obtain⟨_,rfl,rfl⟩:=h;rw[OR hv];refine⟨_,rfl,hs.sl.clr _,hs.bx,hs.hp.put i ((hs.hp.get i).splice (aA _ hk) ?_)⟩;rw[ZA,VD _ _ _ (by rw[Ro];exact hl)];exact hl
    | false=>
      simp only[AK,AS] at h ⊢
      cases hv:FW n (Ju (.h i) o (Ce (BO (BH d.hp i)) o (n.getD 1))) with
      |none=>rw[hv] at h;cases h
      | some w=>
        rw[hv] at h;simp only[Cq,Ak,Am] at h;obtain⟨_,rfl,rfl⟩:=h;have:=OR hv;rw[Rg] at this;rw[this];exact⟨_,rfl,hs⟩
  . rw[Af hc] at h;cases h
theorem EL.clrD(hd:Hd):∀ {a:List DC} {b:List PV},EL a b->EL (Dw hd a) b
 |[],[],_=>trivial
 | c::_,p::_,h=>by
   refine⟨?_,EL.clrD hd h.2⟩
   by_cases hb:c.v.bor hd=true
   . rw[Ac hb];exact .inl rfl
   . rw[Af hb];exact h.1
theorem EL.clr2{hd:Hd}{a:List DC}{b:List PV}{x:Bool}{y:Bool}(h:EL a b)(hxy:x=false->y=false):EL (if x then Dw hd a else a) (if y then Go.Ag.clr hd b else b):=by
 cases x with
 |false=>rw[hxy rfl];exact h
 | true=>cases y with
   |false=>exact h.clrD hd
   |true=>exact h.clr hd
theorem tJ{i n:Nat}{a x:Opnd}{d d':DS}{s:PS}{g:PX}{v:DV}(hs:ES d s)(h:RD i n a x d=some (g,v,d')):∃ s',Rk i n a x s=some (v.enc,s')/\ES d' s':=by
 unfold RD at h;have ha:=a.dev_ev hs;generalize hm:Bo x d=w at h;obtain⟨w,d1⟩:=w;simp only at h;generalize a.dev d.sl=av at h ha
 cases av<;>try (simp only[reduceCtorEq] at h)
 case box j o=>
  by_cases hc:(i == j&&Nat.blt i d1.bx.length&&w.cells.length == n&&Nat.ble (o+n) (BH d1.bx i).length&&DU w.cells)=true
  . rw[Ac hc] at h;simp only[Ah,AV] at hc;obtain⟨⟨⟨⟨rfl,hi⟩,rfl⟩,hl⟩,hcl⟩:=hc;have hi:=Dc hi;have hl:=Dc hl;have hok:=Rj w hcl;obtain⟨m1,m2⟩:=Fm x hs (by rw[hm];exact hok);rw[hm] at m1 m2;simp only[Ak,Am] at h;obtain⟨rfl,rfl,rfl⟩:=h;have hbx:=m2.bx.get i
    have hel:o+w.cells.length<=(Aj (mvOut x s).2.bx i).length:=by
     rcases hbx with he|he
     . rw[he] at hl;simp only[AJ] at hl;omega
     . rw[<- he.len];exact hl
    simp only[Rk,ha.of (by simp:DV.box i o≠.any),DV.enc,m1,Lu,ET,Jo];rw[Ac ⟨trivial,by rw[<- m2.bx.len];exact hi,trivial,hel,MF _ hcl⟩];refine⟨_,rfl,m2.sl.clr2 λ hx=>?_,m2.bx.put i (hbx.splice (EL.news w.cells) hl),m2.hp⟩;simp only[B7,CM] at hx ⊢;rw[(hbx.segm hl hx.1.1).2,OY];exact⟨hx.1.2,hx.2⟩
  . rw[Af hc] at h;cases h
theorem Rl{r' r:RT}{l:List r'.D}{m:List r.D}(h:LX l=some m):r'=r/\l.map (RT.enc r')=m.map (RT.enc r):=by
 unfold LX at h;split at h
 . rename_i hb;have hr:=RT.beq_eq hb;subst hr;simp only[Ak] at h;subst h;exact⟨rfl,rfl⟩
 . cases h
theorem mj:∀ {t:CT} {v:DV} {x:t.D},t.of v=some x->v.enc=CT.enc t x
 | .int k,.int k' n,x,h=>by
   have h':(if k=k' then some n else none)=some x:=h
   by_cases hk:k=k'
   . subst hk
     rw[Ac rfl] at h'
     have:n=x:=C7 h'
     rw[<- this];rfl
   . rw[Af hk] at h';cases h'
 | .bool,.bool b,x,h=>by
   have:b.b=x:=C7 h
   rw[<- this];rfl
 | .str,.str s,x,h=>by
   have:s=x:=C7 h
   rw[<- this];rfl
 | .ifc,.ifc b,x,h=>by
   have:b=x:=C7 h
   rw[<- this];rfl
 | .sl r,.nil .own,x,h=>by
   have:([]:List r.D)=x:=C7 h
   rw[<- this];rfl
 | .sl r,.sl .own r' l,x,h=>by
   show PV.sl .own _=PV.sl .own _
   rw[(Rl (r:=r) h).2]
 | .slf r,.nil .frz,x,h=>by
   have:([]:List r.D)=x:=C7 h
   rw[<- this];rfl
 | .slf r,.sl .frz r' l,x,h=>by
   show PV.sl .frz _=PV.sl .frz _
   rw[(Rl (r:=r) h).2]
theorem Sx:∀ {r:RT} {vs:List DV} {x:r.D},r.of vs=some x->DV.encL vs=RT.enc r x
 |.one t,[v],x,h=>by simp only[DV.encL,RT.enc,mj (t:=t) h]
 | .cons t r,v::vs,x,h=>by
   have h':(match t.of v,r.of vs with|some x,some y=>some (x,y)|_,_=>none)=some x:=h
   clear h
   cases h1:t.of v with
   |none=>rw[h1] at h';cases h'
   | some a=>
     cases h2:r.of vs with
     |none=>rw[h1,h2] at h';cases h'
     | some b=>
       rw[h1,h2] at h'
       have:(a,b)=x:=C7 h'
       rw[<- this]
       simp only[DV.encL,RT.enc,mj h1,Sx h2]
theorem lG:∀ (t:CT) (x:t.D),(CT.dv .own t x).enc=CT.enc t x
 |.int _,_|.bool,_|.str,_|.ifc,_|.sl _,_|.slf _,_=>rfl
theorem bA:∀ (r:RT) (x:r.D),DV.encL (r.dv .own x)=RT.enc r x
 |.one t,x=>by simp only[RT.dv,DV.encL,RT.enc,lG t x]
 |.cons t r,x=>by simp only[RT.dv,DV.encL,RT.enc,lG t x.1,bA r x.2]
theorem Z5(r:RT):∀ (l:List r.D) (j:Nat) (y:r.D),Di (l.map (RT.enc r)) j (RT.enc r y)=(l.set j y).map (RT.enc r)
 |[],_,_=>rfl
 |_::_,0,_=>rfl
 |_::l,j+1,y=>by simp only[Cr,Di,List.set_cons_succ,Z5 r l j y]
theorem ye(v:DV)(p:List Nat)(h:v.fcell p≠.any):v.enc.fcell p=(v.fcell p).enc:=by
 cases v with
 | agg cs=>
   match p with
   |[]=>exact absurd rfl h
   |[c]=>exact(OV cs c).symm
   |_::_::_=>exact absurd rfl h
 | tup vs=>
   match p with
   |[]=>exact absurd rfl h
   |[_]=>exact absurd rfl h
   | [i,c]=>
     show Aa (Aa (DV.encL vs) i).cells c=(Ha (Ha vs i).cells c).enc;rw[<- OV,Lu,<- OV]
   |_::_::_::_=>exact absurd rfl h
 |any=>match p with|[]=>exact absurd rfl h|[0]=>exact absurd rfl h|[_+1]=>exact absurd rfl h|0::_::_=>exact absurd rfl h|(_+1)::_::_=>exact absurd rfl h
 |undef=>match p with|[]=>exact absurd rfl h|[0]=>rfl|[_+1]=>exact absurd rfl h|0::_::_=>exact absurd rfl h|(_+1)::_::_=>exact absurd rfl h
 |bool _=>match p with|[]=>exact absurd rfl h|[0]=>rfl|[_+1]=>exact absurd rfl h|0::_::_=>exact absurd rfl h|(_+1)::_::_=>exact absurd rfl h
 |int _ _=>match p with|[]=>exact absurd rfl h|[0]=>rfl|[_+1]=>exact absurd rfl h|0::_::_=>exact absurd rfl h|(_+1)::_::_=>exact absurd rfl h
 |str _=>match p with|[]=>exact absurd rfl h|[0]=>rfl|[_+1]=>exact absurd rfl h|0::_::_=>exact absurd rfl h|(_+1)::_::_=>exact absurd rfl h
 |ifc _=>match p with|[]=>exact absurd rfl h|[0]=>rfl|[_+1]=>exact absurd rfl h|0::_::_=>exact absurd rfl h|(_+1)::_::_=>exact absurd rfl h
 |nil _=>match p with|[]=>exact absurd rfl h|[0]=>rfl|[_+1]=>exact absurd rfl h|0::_::_=>exact absurd rfl h|(_+1)::_::_=>exact absurd rfl h
 |sl _ _ _=>match p with|[]=>exact absurd rfl h|[0]=>rfl|[_+1]=>exact absurd rfl h|0::_::_=>exact absurd rfl h|(_+1)::_::_=>exact absurd rfl h
 |ep _ _ _ _ _=>match p with|[]=>exact absurd rfl h|[0]=>rfl|[_+1]=>exact absurd rfl h|0::_::_=>exact absurd rfl h|(_+1)::_::_=>exact absurd rfl h
 |box _ _=>match p with|[]=>exact absurd rfl h|[0]=>rfl|[_+1]=>exact absurd rfl h|0::_::_=>exact absurd rfl h|(_+1)::_::_=>exact absurd rfl h
 |ptr _ _=>match p with|[]=>exact absurd rfl h|[0]=>rfl|[_+1]=>exact absurd rfl h|0::_::_=>exact absurd rfl h|(_+1)::_::_=>exact absurd rfl h
theorem Kz{d:DS}{s:PS}(hs:ES d s)(hd:Hd)(p:List Nat)(h:CH d hd p≠.any):Dx s hd p=(CH d hd p).enc:=by
 cases hd with
 | s t=>
   rcases hs.sl.get t with hg|hg
   . simp only[CH,hg] at h;refine absurd ?_ h
     match p with
     |[]=>rfl
     |[0]=>rfl
     |[_+1]=>rfl
     |0::_::_=>rfl
     |(_+1)::_::_=>rfl
   . simp only[CH,Dx,hg] at h ⊢;exact ye _ p h
 | b i=>
   match p with
   |[]=>exact absurd rfl h
   |_::_::_=>exact absurd rfl h
   | [c]=>
     rcases hs.bx.get i with hb|hb
     . simp only[CH,hb,Bq] at h;exact absurd rfl h
     . exact(hb.get c).of h
 | h i=>
   match p with
   |[]=>exact absurd rfl h
   |_::_::_=>exact absurd rfl h
   | [c]=>
     rcases hs.hp.get i with hb|hb
     . simp only[CH,hb,Bq] at h;exact absurd rfl h
     . exact(hb.get c).of h
 |x i=>exact absurd rfl h
theorem zw(v:DV)(p:List Nat)(w:DV):v.enc.setc p w.enc=(v.setc p w).enc:=by
 cases v with
 | agg cs=>
   match p with
   |[]=>rfl
   |[c]=>exact congrArg PV.agg (Wc cs c w).symm
   |_::_::_=>rfl
 | tup vs=>
   match p with
   |[]=>rfl
   |[0]=>rfl
   |[_+1]=>rfl
   |0::_::_=>rfl
   |(_+1)::_::_=>rfl
 |any=>match p with|[]=>rfl|[0]=>rfl|[_+1]=>rfl|0::_::_=>rfl|(_+1)::_::_=>rfl
 |undef=>match p with|[]=>rfl|[0]=>rfl|[_+1]=>rfl|0::_::_=>rfl|(_+1)::_::_=>rfl
 |bool _=>match p with|[]=>rfl|[0]=>rfl|[_+1]=>rfl|0::_::_=>rfl|(_+1)::_::_=>rfl
 |int _ _=>match p with|[]=>rfl|[0]=>rfl|[_+1]=>rfl|0::_::_=>rfl|(_+1)::_::_=>rfl
 |str _=>match p with|[]=>rfl|[0]=>rfl|[_+1]=>rfl|0::_::_=>rfl|(_+1)::_::_=>rfl
 |ifc _=>match p with|[]=>rfl|[0]=>rfl|[_+1]=>rfl|0::_::_=>rfl|(_+1)::_::_=>rfl
 |nil _=>match p with|[]=>rfl|[0]=>rfl|[_+1]=>rfl|0::_::_=>rfl|(_+1)::_::_=>rfl
 |sl _ _ _=>match p with|[]=>rfl|[0]=>rfl|[_+1]=>rfl|0::_::_=>rfl|(_+1)::_::_=>rfl
 |ep _ _ _ _ _=>match p with|[]=>rfl|[0]=>rfl|[_+1]=>rfl|0::_::_=>rfl|(_+1)::_::_=>rfl
 |box _ _=>match p with|[]=>rfl|[0]=>rfl|[_+1]=>rfl|0::_::_=>rfl|(_+1)::_::_=>rfl
 |ptr _ _=>match p with|[]=>rfl|[0]=>rfl|[_+1]=>rfl|0::_::_=>rfl|(_+1)::_::_=>rfl
theorem EBx.put{a:List DC}{b:List PV}{v:DV}{p:PV}(n:Nat)(h:EBx a b)(hv:EV v p):EBx (DX a n v) (B3 b n p):=by
 rcases h with rfl|h
 . exact .inl rfl
 . exact .inr (h.put n hv)
theorem OG{d:DS}{s:PS}(hs:ES d s)(hd:Hd)(p:List Nat)(w:DV)(h:CH d hd p≠.any):ES (HI d w hd p) (setK s w.enc hd p):=by
 cases hd with
 | s t=>
   refine⟨(hs.sl.put t (.inr ?_)).clr _,hs.bx,hs.hp⟩;rcases hs.sl.get t with hg|hg
   . simp only[CH,hg] at h;refine absurd ?_ h
     match p with
     |[]=>rfl
     |[0]=>rfl
     |[_+1]=>rfl
     |0::_::_=>rfl
     |(_+1)::_::_=>rfl
   . rw[hg];exact zw _ p w
 | b i=>
   match p with
   |[]=>exact absurd rfl h
   |_::_::_=>exact absurd rfl h
   |[c]=>exact⟨hs.sl.clr _,hs.bx.put i ((hs.bx.get i).put c (.inr rfl)),hs.hp⟩
 | h i=>
   match p with
   |[]=>exact absurd rfl h
   |_::_::_=>exact absurd rfl h
   |[c]=>exact⟨hs.sl.clr _,hs.bx,hs.hp.put i ((hs.hp.get i).put c (.inr rfl))⟩
 |x i=>exact absurd rfl h
theorem tW{n:Nat}{a x:Opnd}{d d':DS}{s:PS}{g:PX}{v:DV}(hs:ES d s)(h:RE n a x d=some (g,v,d'))(hg:g.den):∃ s',Rh n a x s=some (v.enc,s')/\ES d' s':=by
 unfold RE at h;generalize hm:Bo x d=w at h;obtain⟨w,d1⟩:=w;simp only at h
 have hw:DU w.cells=true->ES d1 (mvOut x s).2/\(mvOut x s).1=w.enc:=λ hcl=>by
  obtain⟨m1,m2⟩:=Fm x hs (by rw[hm];exact Rj w hcl);rw[hm] at m1 m2;exact⟨m2,m1⟩
 split at h
 . rename_i i o ha;by_cases hc:(Nat.blt i d1.hp.length&&w.cells.length == n&&Nat.ble (o+n) (BH d1.hp i).length&&DU w.cells)=true
   . rw[Ac hc] at h;simp only[Ah,AV] at hc;obtain⟨⟨⟨hi,rfl⟩,hl⟩,hcl⟩:=hc;have hi:=Dc hi;have hl:=Dc hl;obtain⟨m2,m1⟩:=hw hcl;have ha':=a.dev_ev m2;rw[ha] at ha';simp only[Ak,Am] at h;obtain⟨rfl,rfl,rfl⟩:=h;have hbx:=m2.hp.get i
     have hel:o+w.cells.length<=(Aj (mvOut x s).2.hp i).length:=by
      rcases hbx with he|he
      . rw[he] at hl;simp only[AJ] at hl;omega
      . rw[<- he.len];exact hl
     simp only[Rh,ha'.of (by simp:DV.ptr i o≠.any),DV.enc,m1,Lu,ET,Jo];rw[Ac ⟨by rw[<- m2.hp.len];exact hi,trivial,hel,MF _ hcl⟩];refine⟨_,rfl,m2.sl.clr2 λ hx=>?_,m2.bx,m2.hp.put i (hbx.splice (EL.news w.cells) hl)⟩;simp only[B7,CM] at hx ⊢;rw[(hbx.segm hl hx.1.1).2,OY];exact⟨hx.1.2,hx.2⟩
   . rw[Af hc] at h;cases h
 . rename_i hd p r0 l0 j o ha
   cases hk:CH d1 hd [p]<;>rw[hk] at h<;>try (cases h;done)
   rename_i q r l
   cases q<;>try (cases h;done)
   simp only at h;by_cases hc:(w.cells.length == n&&Nat.ble (o+n) r.w&&DU w.cells)=true
   . rw[Ac hc] at h;simp only[Ah,AV] at hc;obtain⟨⟨rfl,hl⟩,hcl⟩:=hc;have hl:=Dc hl
     cases hof:r.of (LC (r.dv .own (lGet l j r.dflt)) o w.cells) with
     |none=>rw[hof] at h;cases h
     | some y=>
       rw[hof] at h;simp only[Ak,Am] at h;obtain⟨rfl,rfl,rfl⟩:=h;obtain⟨m2,m1⟩:=hw hcl;have ha':=a.dev_ev m2;rw[ha] at ha'
       have hne:CH d1 hd [p]≠.any:=by rw[hk];simp
       have hj:j<l.length:=hg;have e1:=Kz m2 hd [p] hne;rw[hk] at e1;have e2:=Sx hof;rw[Vh,bA,bB,<- MP r l j hj] at e2;have e3:=OG m2 hd [p] (.sl .own r (lSet l j y)) hne;simp only[Rh,ha'.of (by simp:DV.ep (.bor hd [p] true) r0 l0 j o≠.any),DV.enc,m1,Lu,ET,e1,A6];rw[Ac ⟨hj,trivial,by rw[MP r l j hj,M8];exact hl,MF _ hcl⟩,e2,Z5];simp only[DV.enc,cj] at e3;exact⟨_,rfl,by rw[cj];exact e3⟩
   . rw[Af hc] at h;cases h
 . cases h
theorem gi{m:Bool}{n:Option Nat}{a:DV}{p:PV}{d d':DS}{s:PS}{r:Ez}{g:PX}{v:DV}(hs:ES d s)(ha:EV a p)(h:MU m n a d=some r)(hr:r=some (g,v,d'))(hg:g.den):L3 m n p s=some (some v.enc)/\d'=d:=by cases h
theorem wJ{m:Bool}{n:Option Nat}{a:DV}{p:PV}{d:DS}{s:PS}(ha:EV a p)(hne:a≠.any)(h:MU m n a d=none):L3 m n p s=none:=rfl
theorem xQ{i c:Nat}{a:DV}{p:PV}(ha:EV a p)(hx:a.nestX i c=true):p.nestX i c=true:=by
 rw[ha.of (λ e=>by rw[e] at hx;cases hx)];unfold DV.nestX at hx;split at hx
 . exact hx
 . cases hx
theorem yY{a:DV}{p:PV}(ha:EV a p)(hne:a≠.any):p.nest=a.nest:=rfl
theorem tL{n:Nat}{hd:Hd}{p k j o:Nat}{w:DV}{pw:PV}{d d':DS}{s:PS}{g:PX}{v:DV}(hs:ES d s)(hw:EV w pw)(h:aQ n hd p k j o w d=some (g,v,d'))(hg:g.den):∃ s',Z6 n hd p k j o pw s=some (v.enc,s')/\ES d' s':=by cases h
theorem vl{d:DS}{s:PS}(x:Opnd)(h:ES d s)(hk:(Fs x d).1.ok=true):(fzOut x s).1=(Fs x d).1.enc/\ES (Fs x d).2 (fzOut x s).2:=by
 cases x with
 | c v=>
   refine⟨?_,h⟩;refine(Rc v λ he=>?_).symm;simp only[Fs,he,DV.ok,AK] at hk
 | t n =>
   simp only[Fs,SI,fzOut,XE] at hk ⊢;rcases h.sl.get n with hg|hg
   . rw[hg] at hk;simp only[DV.own,AK,AS,DV.ok] at hk
   . rw[hg,Jo];by_cases ho:(Bq d.sl n).own=true
     . simp only[ho,AO] at hk ⊢;by_cases hr:(Bq d.sl n).retok=true
       . rw[Ac hr,Ac (iG _ hr),<- WS];exact⟨rfl,(h.sl.put n (.inr rfl)).clr _,h.bx,h.hp⟩
       . rw[Af hr] at hk;cases hk
     . simp only[ho] at hk ⊢;exact⟨rfl,h⟩
theorem yK(hd:Hd)(v:DV)(h:v≠.any):(cY hd v).enc=IH hd v.enc:=by
 cases v<;>first|rfl|exact absurd rfl h|skip
 case nil q=>cases q<;>rfl
 case sl q r l=>cases q<;>rfl
 case agg cs=>show PV.agg _=PV.agg _;rw[Rg]
 case tup vs=>
  simp only[cY,DV.enc,IH,OY];split<;>rfl
theorem vj{d:DS}{s:PS}(x:Opnd)(h:ES d s)(hk:(KF x d).1.ok=true):(LV x s).1=(KF x d).1.enc/\ES (KF x d).2 (LV x s).2:=by
 cases x with
 | c v=>
   refine⟨?_,h⟩;refine(Rc v λ he=>?_).symm;simp only[KF,he,DV.ok,AK] at hk
 | t n=>
   simp only[KF] at hk
   have hn:Bq d.sl n≠.any:=by intro e;rw[e] at hk;cases hk
   simp only[KF,LV];rw[(h.sl.get n).of hn,yK _ _ hn];exact⟨rfl,h⟩
theorem Jf:∀ (l:List V),Hu l=true->l.all V.flat=true/\DV.encL (Hb l)=l.map Ca/\DU (Hb l)=true
 |[],_=>⟨rfl,rfl,rfl⟩
 | v::r,h=>by
   simp only[Hu,Ah] at h;obtain⟨h1,h2,h3⟩:=Jf r h.2
   have hv:(JG v).cell=true/\(JG v).enc=Ca v:=by cases v<;>first|exact⟨rfl,rfl⟩|(have:=h.1;cases this)
   refine⟨by simp only[Gp,h.1,h1,Dn],?_,?_⟩
   . simp only[Hb,DV.encL,Cr,h2,hv.2]
   . simp only[Hb,DU,hv.1,h3,Dn]
theorem Za:∀ (ps:List (Nat×Nat×Opnd)) {cs cs':List DV} {d d':DS} {s:PS},ES d s->Jy cs ps d=some (cs',d')->∃ s',G6 (DV.encL cs) ps s=some (DV.encL cs',s')/\ES d' s'
 | [],cs,cs',d,d',s,hs,h=>by
   simp only[Jy,Ak,Am] at h
   obtain⟨rfl,rfl⟩:=h
   exact⟨s,rfl,hs⟩
 | (off,size,x)::r,cs,cs',d,d',s,hs,h=>by
   unfold Jy at h
   by_cases hc:((Bo x d).1.cells.length == size&&Nat.ble (off+size) cs.length&&DU (Bo x d).1.cells)=true
   . rw[Ac hc] at h
     simp only[Ah,AV] at hc
     obtain⟨⟨h1,h2⟩,h3⟩:=hc
     obtain⟨m1,m2⟩:=Fm x hs (Rj _ h3)
     obtain⟨s',e1,e2⟩:=Za r m2 h
     refine⟨s',?_,e2⟩
     unfold G6
     rw[m1,Lu,ET,ET,Ac ⟨h1,Dc h2,MF _ h3⟩,<- Vh]
     exact e1
   . rw[Af hc] at h;cases h
theorem hZ:∀ (n:Nat) (l:List DV),DV.encL (l.take n)=(DV.encL l).take n
 |0,_=>rfl
 |_+1,[]=>rfl
 |n+1,_::r=>by simp only[bH,DV.encL,hZ n r]
theorem il:∀ (n:Nat) (l:List DV),DV.encL (l.drop n)=(DV.encL l).drop n
 |0,_=>rfl
 |_+1,[]=>rfl
 |n+1,_::r=>by simp only[List.drop_succ_cons,DV.encL,il n r]
theorem e6(r:RT)(w:Nat):∀ (n:Nat) (cs:List DV) (l:List r.D),Pj r w n cs=some l->Gq w n (DV.encL cs)=l.map (RT.enc r)
 | 0,cs,l,h=>by
   simp only[Pj,Ak] at h;subst h;rfl
 | n + 1,cs,l,h=>by
   unfold Pj at h
   cases h1:r.of (cs.take w) with
   |none=>rw[h1] at h;cases h
   | some x=>
     cases h2:Pj r w n (cs.drop w) with
     |none=>rw[h1,h2] at h;cases h
     | some y=>
       rw[h1,h2] at h
       have:=C7 h
       subst this
       simp only[Gq,Cr,<- hZ,<- il,Sx h1,e6 r w n _ y h2]
def DSrc.es:DSrc->List (List PV)
 |.nil=>[]
 |.sl r l=>l.map (RT.enc r)
theorem R9{r:RT}{x:DSrc}{l:List r.D}(h:x.to r=some l):x.es=l.map (RT.enc r):=by
 cases x with
 |nil=>have:=C7 h;subst this;rfl
 |sl r' l'=>exact(Rl h).2
theorem ky:∀ (t:CT) (x:t.D),t.flat=true->(CT.enc t x).flatc=true
 |.int _,_,_|.bool,_,_|.str,_,_|.ifc,_,_=>rfl
theorem kJ:∀ (r:RT) (x:r.D),r.flat=true->HE (RT.enc r x)=true
 |.one t,x,h=>by simp only[RT.enc,HE,ky t x h,Dn]
 | .cons t r,x,h=>by
   simp only[RT.flat,Ah] at h
   simp only[RT.enc,HE,ky t x.1 h.1,kJ r x.2 h.2,Dn]
theorem jM(r:RT)(h:r.flat=true):∀ (l:List r.D),JC (l.map (RT.enc r))=true
 |[]=>rfl
 |x::l=>by simp only[Cr,JC,kJ r x h,jM r h l,Dn]
theorem Zau{w:Nat}{x:DSrc}(h:x.w w=true):C9 w x.es=true:=by
 cases x with
 |nil=>rfl
 | sl r l=>
   have:r.w=w:=by simpa [DSrc.w] using h
   subst this;exact FT r l
theorem mv_ok{d:DS}{x:Opnd}(v:DV)(hx:x.dev d.sl=v)(ho:v.own=true)(hb:∀ hd,v.bor hd=false)(hk:v.ok=true):(Bo x d).1=v:=by
 cases x with
 |c c=>exact hx
 | t n=>
   have hx':Bq d.sl n=v:=hx;simp only[Bo,SM,hx',ho,hb,AO,AK,AS]
theorem Zl{w:Nat}{y:Opnd}{d d':DS}{s:PS}{new:DSrc}(hs:ES d s)(h:JH w y d=some (new,d')):∃ s',Nd w y s=some (new.es,s')/\ES d' s':=by
 have hy:=y.dev_ev hs;unfold JH at h;unfold Nd
 cases hv:y.dev d.sl with
 | str t=>
   rw[hv] at h hy;simp only at h;by_cases hw:(w == 1)=true
   . rw[Ac hw] at h;simp only[Ak,Am] at h;obtain⟨rfl,rfl⟩:=h;rw[hy.of (by simp)];simp only[DV.enc];rw[Ac (by simpa using hw)];refine⟨s,?_,hs⟩
     have:(DSrc.sl (.one (.int .u8)) (sRow t)).es=t.map λ b=>[PV.fl (.int .u8 b.toNat)]:=by
      unfold DSrc.es;rw[ZaY];clear hy hv
      induction t with
      |nil=>rfl
      |cons b t ih=>exact congrArg (List.cons _) ih
     rw[this]
   . rw[Af hw] at h;cases h
 | nil q=>
   rw[hv] at h hy;have hp:=hy.of (by simp)
   cases q with
   | own=>
     simp only[Ak,Am] at h;obtain⟨rfl,rfl⟩:=h;have hk:=mv_ok (.nil .own) hv rfl (λ _=>rfl) rfl;obtain⟨m1,m2⟩:=Fm y hs (by rw[hk];rfl);rw[hp];exact⟨_,rfl,m2⟩
   | frz=>
     simp only[Ak,Am] at h;obtain⟨rfl,rfl⟩:=h;rw[hp];exact⟨s,rfl,hs⟩
   | ownw w'=>
     simp only[Ak,Am] at h;obtain⟨rfl,rfl⟩:=h;rw[hp];exact⟨s,rfl,hs⟩
   | bor a b c=>
     simp only[Ak,Am] at h;obtain⟨rfl,rfl⟩:=h;rw[hp];exact⟨s,rfl,hs⟩
   | pre a b=>
     simp only[Ak,Am] at h;obtain⟨rfl,rfl⟩:=h;rw[hp];exact⟨s,rfl,hs⟩
 | sl q r l=>
   rw[hv] at h hy;have hp:=hy.of (by simp)
   have key:(if (r.w == w&&r.flat)=true then some (DSrc.sl r l,d) else none)=some (new,d')->C9 w (l.map (RT.enc r))=true/\JC (l.map (RT.enc r))=true/\new.es=l.map (RT.enc r)/\d'=d:=λ h=>by
    by_cases hw:(r.w == w&&r.flat)=true
    . rw[Ac hw] at h;simp only[Ah,AV] at hw;simp only[Ak,Am] at h;obtain⟨rfl,rfl⟩:=h;exact⟨hw.1▸FT r l,jM r hw.2 l,rfl,rfl⟩
    . rw[Af hw] at h;cases h
   rw[hp]
   cases q with
   | own=>
     simp only at h;by_cases hw:(r.w == w)=true
     . rw[Ac hw] at h;simp only[Ak,Am] at h;obtain⟨rfl,rfl⟩:=h;have hk:=mv_ok (.sl .own r l) hv rfl (λ _=>rfl) rfl;obtain⟨m1,m2⟩:=Fm y hs (by rw[hk];rfl)
       have hw':r.w=w:=by simpa using hw
       simp only[DV.enc];rw[Ac (hw'▸FT r l)];exact⟨_,rfl,m2⟩
     . rw[Af hw] at h;cases h
   |ownw w'=>cases h
   |frz=>obtain⟨k1,k2,k3,rfl⟩:=key h;simp only[DV.enc];rw[Ac ⟨k1,k2⟩,k3];exact⟨s,rfl,hs⟩
   |bor a b c=>obtain⟨k1,k2,k3,rfl⟩:=key h;simp only[DV.enc];rw[Ac ⟨k1,k2⟩,k3];exact⟨s,rfl,hs⟩
   |pre a b=>obtain⟨k1,k2,k3,rfl⟩:=key h;simp only[DV.enc];rw[Ac ⟨k1,k2⟩,k3];exact⟨s,rfl,hs⟩
 |_=>rw[hv] at h;cases h
theorem M4{x:DSrc}{r:RT}{l:List r.D}(h:x.to r=some l):x.es.length=l.length:=by rw[R9 h,A6]
theorem gD{w:Nat}{x:Opnd}{new:DSrc}{d d':DS}{s:PS}{g:PX}{v:DV}(hs:ES d s)(h:Me w x new d=some (g,v,d'))(hg:g.den):∃ s',KR w x new.es s=some (v.enc,s')/\ES d' s':=by
 have hx:=x.dev_ev hs;unfold Me at h;by_cases h0:(Nat.blt 0 w&&new.w w)=true
 . simp only [h0,G0,AK,AS] at h;simp only[Ah] at h0;have hw0:0<w:=Dc h0.1;unfold KR
   cases hv:x.dev d.sl with
   | nil q =>
     rw[hv] at h hx;rw[hx.of (by simp)]
     cases q with
     | own=>
       have hk:=mv_ok (.nil .own) hv rfl (λ _=>rfl) rfl;obtain⟨m1,m2⟩:=Fm x hs (by rw[hk];rfl)
       cases new with
       | nil=>
         simp only[Ak,Am] at h;obtain⟨rfl,rfl,rfl⟩:=h;simp only[DV.enc,DSrc.es,AJ,G3,LH,RH];rw[Ac ⟨hw0,rfl,Gt _⟩];exact⟨_,rfl,m2⟩
       | sl r l=>
         simp only[Ak,Am] at h;obtain⟨rfl,rfl,rfl⟩:=h;simp only[DV.enc,DSrc.es,AJ,Cs,A6,C3];rw[Ac ⟨hw0,rfl,hg⟩];exact⟨_,rfl,m2⟩
     | bor hd p t=>
       cases t with
       | false=>cases p with
         |nil=>cases h
         |cons c p=>cases p<;>cases h
       | true=>
         match p,h with
         | [c],h=>
           simp only at h ⊢
           cases hk:CH d hd [c]<;>rw[hk] at h<;>try (cases h;done)
           rename_i q
           cases q<;>try (cases h;done)
           have hne:CH d hd [c]≠.any:=by rw[hk];simp
           have e1:=Kz hs hd [c] hne;rw[hk] at e1;have e3:=OG hs hd [c] .undef hne
           cases new with
           | nil=>
             simp only[Ak,Am] at h;obtain⟨rfl,rfl,rfl⟩:=h;simp only[DV.enc,e1,DSrc.es,AJ,G3,LH,RH];rw[Ac ⟨hw0,rfl,trivial,Gt _⟩];exact⟨_,rfl,e3⟩
           | sl r l=>
             simp only[Ak,Am] at h;obtain⟨rfl,rfl,rfl⟩:=h;simp only[DV.enc,e1,DSrc.es,AJ,Cs,A6,C3];rw[Ac ⟨hw0,rfl,trivial,hg⟩];exact⟨_,rfl,e3⟩
         |[],h=>cases h
         |_::_::_,h=>cases h
     |_=>cases h
   | sl q r l=>
     rw[hv] at h hx;rw[hx.of (by simp)]
     cases q with
     | own =>
       simp only at h;by_cases hw:(r.w == w)=true
       . rw[Ac hw] at h
         have hw':r.w=w:=by simpa using hw
         cases ht:new.to r with
         |none=>rw[ht] at h;cases h
         | some n=>
           rw[ht] at h;simp only[Ak,Am] at h;obtain⟨rfl,rfl,rfl⟩:=h;have hk:=mv_ok (.sl .own r l) hv rfl (λ _=>rfl) rfl;obtain⟨m1,m2⟩:=Fm x hs (by rw[hk];rfl);simp only[DV.enc,A6,M4 ht];rw[Ac ⟨hw0,hw'▸FT r l,hg⟩,R9 ht];refine⟨_,?_,m2⟩;simp only[MY,Gr]
       . rw[Af hw] at h;cases h
     | bor hd p t=>
       cases t with
       | false=>cases p with
         |nil=>cases h
         |cons c p=>cases p<;>cases h
       | true=>
         match p,h with
         | [c],h=>
           simp only at h ⊢
           cases hk:CH d hd [c]<;>rw[hk] at h<;>try (cases h;done)
           rename_i q rh lh
           cases q<;>try (cases h;done)
           simp only at h;by_cases hw:(rh.w == w)=true
           . rw[Ac hw] at h
             have hw':rh.w=w:=by simpa using hw
             cases ht:new.to rh with
             |none=>rw[ht] at h;cases h
             | some n=>
               rw[ht] at h;simp only[Ak,Am] at h;obtain⟨rfl,rfl,rfl⟩:=h
               have hne:CH d hd [c]≠.any:=by rw[hk];simp
               have e1:=Kz hs hd [c] hne;rw[hk] at e1;have e3:=OG hs hd [c] .undef hne;simp only[DV.enc,e1,A6,M4 ht];rw[Ac ⟨hw0,hw'▸FT rh lh,hg.1,hg.2⟩,R9 ht];refine⟨_,?_,e3⟩;simp only[MY,Gr,DV.enc]
           . rw[Af hw] at h;cases h
         |[],h=>cases h
         |_::_::_,h=>cases h
     | pre hd p=>
      match p,h with
      | [c],h=>
        simp only at h ⊢
        cases hk:CH d hd [c]<;>rw[hk] at h<;>try (cases h;done)
        rename_i q rh lh
        cases q<;>try (cases h;done)
        simp only at h;by_cases hw:(rh.w == w)=true
        . rw[Ac hw] at h
          have hw':rh.w=w:=by simpa using hw
          cases ht:new.to rh with
          |none=>rw[ht] at h;cases h
          | some n=>
            rw[ht] at h;simp only[Ak,Am] at h;obtain⟨rfl,rfl,rfl⟩:=h
            have hne:CH d hd [c]≠.any:=by rw[hk];simp
            have e1:=Kz hs hd [c] hne;rw[hk] at e1;have e3:=OG hs hd [c] .undef hne;simp only[DV.enc,e1,A6,M4 ht];rw[Ac ⟨hw0,hw'▸FT rh lh,hg.1,hg.2.1,hg.2.2.2⟩,R9 ht,Af (Nat.ne_of_gt hg.2.2.1)];refine⟨_,?_,e3⟩;simp only[MY,bu,SG,Gr,W5,DV.enc]
        . rw[Af hw] at h;cases h
      |[],h=>cases h
      |_::_::_,h=>cases h
     |_=>cases h
   |_=>rw[hv] at h;cases h
 . simp only[h0] at h;cases h
theorem iz{zs:List V}(h:Hu zs=true):EL (news (Hb zs)) (zs.map Ca):=by rw[<- (Jf zs h).2.1];exact EL.news _
theorem EB.append{c:List DC}{p:List PV}:∀ {a:List (List DC)} {b:List (List PV)},EB a b->EBx c p->EB (a++[c]) (b++[p])
 |[],[],_,h=>⟨h,trivial⟩
 |_::_,_::_,h,h'=>⟨h.1,EB.append h.2 h'⟩
theorem tP(r:RT)(x:r.D)(n:Nat):(List.replicate n x).map (RT.enc r)=List.replicate n (RT.enc r x):=by simp
theorem Vd{m:Bool}{o:AOp}{ty:Option RT}{d d':DS}{s:PS}{g:PX}{v:DV}(hs:ES d s)(h:Bp m o ty d=some (g,v,d'))(hg:g.den):∃ s',BC m o s=some (v.enc,s')/\ES d' s':=by
 have E:=λ x=>Opnd.dev_ev hs x
 have pure:(PA o (λ x=>x.dev d.sl)).map (λ r=>(r.1,r.2,d))=some (g,v,d')->∃ s',BC m o s=some (v.enc,s')/\ES d' s':=λ h=>by
  cases hp:PA o (λ x=>x.dev d.sl) with
  |none=>rw[hp] at h;cases h
  | some r=>
    obtain⟨g1,v1⟩:=r;rw[hp] at h;simp only[Cq,Ak,Am] at h;obtain⟨rfl,rfl,rfl⟩:=h;exact⟨s,vF hs hp hg,hs⟩
 cases o<;>first|exact pure h|skip
 case mv x=>
  cases m with
  | false=>
    simp only[Bp,AK,AS] at h;by_cases hk:(Bo x d).1.ok=true
    . rw[Ac hk] at h;simp only[Ak,Am] at h;obtain⟨rfl,rfl,rfl⟩:=h;obtain⟨m1,m2⟩:=Fm x hs hk;exact⟨_,by simp only[BC,AK,AS,<- m1],m2⟩
    . rw[Af hk] at h;cases h
  | true=>
    simp only[Bp,AO] at h;by_cases hk:(KF x d).1.ok=true
    . rw[Ac hk] at h;simp only[Ak,Am] at h;obtain⟨rfl,rfl,rfl⟩:=h;obtain⟨m1,m2⟩:=vj x hs hk;exact⟨_,by simp only[BC,AO,<- m1],m2⟩
    . rw[Af hk] at h;cases h
 case loadB i n a=>exact YZ hs (E a) h
 case loadH n a=>
  simp only[Bp] at h
  cases hn:MU m n (a.dev d.sl) d with
  | none=>
    rw[hn] at h;obtain⟨s',h1,h2⟩:=Y8 hs (E a) h hg;refine⟨s',?_,h2⟩
    have hne:a.dev d.sl≠.any:=by
     intro e;simp only[e,KL] at h;cases h
    simp only[BC,wJ (s:=s) (E a) hne hn];exact h1
  | some r=>
    rw[hn] at h;obtain⟨h1,rfl⟩:=gi hs (E a) hn h hg;exact⟨s,by simp only[BC,h1];rfl,hs⟩
 case loadX i c n a=>
  simp only[Bp] at h;split at h
  . rename_i hx
    cases hn:MU m n (a.dev d.sl) d with
    |none=>rw[hn] at h;cases h
    | some r=>
      rw[hn] at h;obtain⟨h1,rfl⟩:=gi hs (E a) hn h hg;exact⟨s,by simp only[BC,xQ (E a) hx,AO,h1];rfl,hs⟩
  . cases h
 case storeB i n a x=>exact tJ hs h
 case storeH n a x=>
  simp only[Bp] at h;split at h
  . rename_i hok;have hn:=yY (E a) (λ e=>by rw[e] at hok;cases hok);split at h
    . rename_i hd p k j o hm;obtain⟨s',h1,h2⟩:=tL hs (E x) h hg;exact⟨s',by simp only[BC,hn,hm];exact h1,h2⟩
    . rename_i hm;obtain⟨s',h1,h2⟩:=tW hs h hg;exact⟨s',by simp only[BC,hn,hm];exact h1,h2⟩
  . cases h
 case appN w x y=>
  simp only[Bp] at h;split at h
  . rename_i hx
    cases h1:JH w y d with
    |none=>rw[h1] at h;cases h
    | some r=>
      obtain⟨new,d1⟩:=r;rw[h1] at h;obtain⟨s1,e1,e2⟩:=Zl hs h1;obtain⟨s2,e3,e4⟩:=gD e2 h hg;have ex:=(E x).of (by rw[hx];simp);rw[hx] at ex;exact⟨s2,by simp only[BC,ex,DV.enc,e1];exact e3,e4⟩
  . cases h
 case app w x y=>
  simp only[Bp] at h
  cases h1:JH w y d with
  |none=>rw[h1] at h;cases h
  | some r=>
    obtain⟨new,d1⟩:=r;rw[h1] at h;obtain⟨s1,e1,e2⟩:=Zl hs h1;obtain⟨s2,e3,e4⟩:=gD e2 h hg;exact⟨s2,by simp only[BC,e1];exact e3,e4⟩
 case allocB i zs=>
  simp only[Bp] at h;by_cases hc:(Nat.blt i d.bx.length&&Hu zs)=true
  . rw[Ac hc] at h;simp only[Ah] at hc;simp only[Ak,Am] at h;obtain⟨rfl,rfl,rfl⟩:=h;simp only[BC];rw[Ac ⟨by rw[<- hs.bx.len];exact Dc hc.1,(Jf zs hc.2).1⟩];exact⟨_,rfl,(hs.sl.clearBox i).clr _,hs.bx.put i (.inr (iz hc.2)),hs.hp⟩
  . rw[Af hc] at h;cases h
 case boxB i n x=>
  simp only[Bp] at h;by_cases hc:(Nat.blt i (Bo x d).2.bx.length&&(Bo x d).1.cells.length == n&&DU (Bo x d).1.cells)=true
  . rw[Ac hc] at h;simp only[Ah,AV] at hc;obtain⟨⟨h1,rfl⟩,h3⟩:=hc;obtain⟨m1,m2⟩:=Fm x hs (Rj _ h3);simp only[Ak,Am] at h;obtain⟨rfl,rfl,rfl⟩:=h;simp only[BC,m1,Lu,ET];rw[Ac ⟨by rw[<- m2.bx.len];exact Dc h1,trivial,MF _ h3⟩];exact⟨_,rfl,(m2.sl.clearBox i).clr _,m2.bx.put i (.inr (EL.news _)),m2.hp⟩
  . rw[Af hc] at h;cases h
 case allocH zs=>
  simp only[Bp] at h;by_cases hc:Hu zs=true
  . rw[Ac hc] at h;simp only[Ak,Am] at h;obtain⟨rfl,rfl,rfl⟩:=h;simp only[BC];rw[Ac (Jf zs hc).1,<- hs.hp.len];exact⟨_,rfl,hs.sl.clr _,hs.bx,hs.hp.append (.inr (iz hc))⟩
  . rw[Af hc] at h;cases h
 case boxH n x=>
  simp only[Bp] at h;by_cases hc:((Bo x d).1.cells.length == n&&DU (Bo x d).1.cells)=true
  . rw[Ac hc] at h;simp only[Ah,AV] at hc;obtain⟨rfl,h3⟩:=hc;obtain⟨m1,m2⟩:=Fm x hs (Rj _ h3);simp only[Ak,Am] at h;obtain⟨rfl,rfl,rfl⟩:=h;simp only[BC,m1,Lu,ET];rw[Ac ⟨trivial,MF _ h3⟩,<- m2.hp.len];exact⟨_,rfl,m2.sl.clr _,m2.bx,m2.hp.append (.inr (EL.news _))⟩
  . rw[Af hc] at h;cases h
 case build zs ps=>
  simp only[Bp] at h;by_cases hc:Hu zs=true
  . rw[Ac hc] at h
    cases hf:Jy (Hb zs) ps d with
    |none=>rw[hf] at h;cases h
    | some r=>
      obtain⟨cs,d1⟩:=r;rw[hf] at h;simp only[Ak,Am] at h;obtain⟨rfl,rfl,rfl⟩:=h;obtain⟨s',e1,e2⟩:=Za ps hs hf;rw[(Jf zs hc).2.1] at e1;simp only[BC];rw[Ac (Jf zs hc).1,e1];exact⟨s',rfl,e2⟩
  . rw[Af hc] at h;cases h
 case mkSlice w z len=>
  simp only[Bp] at h
  cases he:len.dev d.sl with
  | int k n=>
    rw[he] at h
    cases k<;>try (cases h)
    simp only at h;split at h
    . rename_i r hr;split at h
      . rename_i x hx;split at h
        . rename_i hc;simp only[Ah,AV] at hc;obtain⟨⟨⟨h1,h2⟩,h3⟩,h4⟩:=hc;simp only[Ak,Am] at h;obtain⟨rfl,rfl,rfl⟩:=h;have hp:=E len;rw[he] at hp;simp only[BC,hp.of (by simp),DV.enc];rw[Ac ⟨hg.1,h1,Dc h3,(Jf z h4).1,hg.2⟩];refine⟨s,?_,hs⟩;rw[lr];rw[tP,<- Sx hx,(Jf z h4).2.1]
        . cases h
      . cases h
    . cases h
  |_=>rw[he] at h;cases h
 case litSlice w n zs ps=>
  simp only[Bp] at h;by_cases hn:(n == 0)=true
  . rw[Ac hn] at h;simp only[Ak,Am] at h;obtain⟨rfl,rfl,rfl⟩:=h;simp only[BC];rw[Ac (by simpa using hn)];refine⟨s,?_,hs⟩;cases ty<;>rfl
  . rw[Af hn] at h;split at h
    . rename_i hc;simp only[Ah,AV] at hc;obtain⟨⟨h1,h2⟩,h3⟩:=hc;split at h
      . rename_i cs d1 hf;split at h
        . rename_i r hr;split at h
          . split at h
            . rename_i l hl;simp only[Ak,Am] at h;obtain⟨rfl,rfl,rfl⟩:=h;obtain⟨s',e1,e2⟩:=Za ps hs hf;rw[(Jf zs h1).2.1] at e1;simp only[BC];rw[Af (by simpa using hn),Ac ⟨(Jf zs h1).1,h2,Dc h3⟩,e1];refine⟨s',?_,e2⟩;simp only[Cq,DV.enc,e6 r w n cs l hl]
            . cases h
          . cases h
        . cases h
      . cases h
    . cases h
 case extract x i=>
  simp only[Bp] at h
  cases x with
  |c v=>cases h
  | t t =>
    simp only at h;have ht:EV (Bq d.sl t) (Aa s.sl t):=hs.sl.get t
    cases hv:Bq d.sl t with
    | tup vs=>
      rw[hv] at h ht;simp only at h;have hp:Aa s.sl t= .tup (DV.encL vs):=ht.of (by simp);split at h
      . rename_i hc;simp only[Ah] at hc;simp only[BC,hp];rw[ET,Ac (show i<vs.length from Dc hc.1),<- OV,Jo,Wv];split at h
        . rename_i ho;rw[Ac ho];split at h
          . cases h
          . rename_i hb;rw[Af hb];simp only[Ak,Am] at h;obtain⟨rfl,rfl,rfl⟩:=h;refine⟨_,rfl,?_,hs.bx,hs.hp⟩;refine(EL.put t hs.sl (.inr ?_)).clr _;show PV.tup _=PV.tup _;rw[Wc];rfl
        . rename_i ho;rw[Af ho];simp only[Ak,Am] at h;obtain⟨rfl,rfl,rfl⟩:=h;exact⟨_,rfl,hs⟩
      . cases h
    |_=>rw[hv] at h;cases h
theorem bq{w:Nat}{new:DSrc}{r:RT}{n:List r.D}(h:new.to r=some n)(l:List r.D)(hw:r.w=w):l.map (RT.enc r)++new.es=(l++n).map (RT.enc r)/\C9 w (l.map (RT.enc r)++new.es)=true:=by
 have:l.map (RT.enc r)++new.es=(l++n).map (RT.enc r):=by rw[R9 h,Gr]
 exact⟨this,by rw[this];exact hw▸FT r (l++n)⟩
theorem W3{w:Nat}{es:List (List PV)}(h:C9 w es=true):Fc [(0,w)] (.sl .own es)=some (.sl (.ownw w) es):=by
 show F2 w (.sl .own es)=_;simp only[F2];rw[Ac h]
theorem Zak{w:Nat}{es:List (List PV)}:Fc [(0,w)] (.sl (.ownw w) es)=some (.sl (.ownw w) es):=by
 show F2 w (.sl (.ownw w) es)=_;simp only[F2,AO]
theorem RL{w:Nat}{es:List (List PV)}{c:Prop} [Decidable c](h:C9 w es=true):Fc [(0,w)] (.sl (if c then .ownw w else .own) es)=some (.sl (.ownw w) es):=by
 split
 . exact Zak
 . exact W3 h
theorem vo{w:Nat}{x:Opnd}{new:DSrc}{d d':DS}{s:PS}{g:PX}{v:DV}(hs:ES d s)(h:R8 w x new d=some (g,v,d'))(hg:g.den):∃ s' v0,KR w x new.es s=some (v0,s')/\Fc [(0,w)] v0=some v.enc/\ES d' s':=by
 have hx:=x.dev_ev hs;unfold R8 at h;by_cases h0:(Nat.blt 0 w&&new.w w)=true
 . simp only [h0,G0,AK,AS] at h;simp only[Ah] at h0;have hw0:0<w:=Dc h0.1;have haw:=Zau h0.2;unfold KR
   cases hv:x.dev d.sl with
   | nil q =>
     rw[hv] at h hx;rw[hx.of (by simp)]
     cases q with
     | own=>
       have hk:=mv_ok (.nil .own) hv rfl (λ _=>rfl) rfl;obtain⟨m1,m2⟩:=Fm x hs (by rw[hk];rfl);simp only[DV.enc,AJ,Cs,C3]
       cases new with
       | nil=>
         simp only[LU,Ak,Am] at h;obtain⟨rfl,rfl,rfl⟩:=h;rw[Ac ⟨hw0,rfl,by simp[DSrc.es,As]⟩];exact⟨_,_,rfl,W3 haw,m2⟩
       | sl r l=>
         simp only[LU,Ak,Am] at h;obtain⟨rfl,rfl,rfl⟩:=h;rw[Ac ⟨hw0,rfl,by simpa [DSrc.es,PX.den] using hg⟩];exact⟨_,_,rfl,W3 haw,m2⟩
     | ownw w'=>
       simp only at h;by_cases hw':(w' == w)=true
       . rw[Ac hw'] at h
         have hw':w'=w:=by simpa using hw'
         subst hw';have hk:=mv_ok (.nil (.ownw w')) hv rfl (λ _=>rfl) rfl;obtain⟨m1,m2⟩:=Fm x hs (by rw[hk];rfl);simp only[DV.enc,AJ,Cs,C3]
         cases new with
         | nil=>
           simp only[LU,Ak,Am] at h;obtain⟨rfl,rfl,rfl⟩:=h;rw[Ac ⟨hw0,trivial,rfl,by simp[DSrc.es,As]⟩];exact⟨_,_,rfl,RL haw,m2⟩
         | sl r l=>
           simp only[LU,Ak,Am] at h;obtain⟨rfl,rfl,rfl⟩:=h;rw[Ac ⟨hw0,trivial,rfl,by simpa [DSrc.es,PX.den] using hg⟩];exact⟨_,_,rfl,RL haw,m2⟩
       . rw[Af hw'] at h;cases h
     |_=>cases h
   | sl q r l=>
     rw[hv] at h hx;rw[hx.of (by simp)]
     cases q with
     | own =>
       simp only at h;by_cases hw:(r.w == w)=true
       . rw[Ac hw] at h
         have hw':r.w=w:=by simpa using hw
         cases ht:new.to r with
         |none=>rw[ht] at h;cases h
         | some n=>
           rw[ht] at h;simp only[Ak,Am] at h;obtain⟨rfl,rfl,rfl⟩:=h;have hk:=mv_ok (.sl .own r l) hv rfl (λ _=>rfl) rfl;obtain⟨m1,m2⟩:=Fm x hs (by rw[hk];rfl);obtain⟨a1,a2⟩:=bq ht l hw';simp only[DV.enc,A6,M4 ht];rw[Ac ⟨hw0,hw'▸FT r l,hg⟩];exact⟨_,_,rfl,by rw[W3 a2,a1];simp only[MY],m2⟩
       . rw[Af hw] at h;cases h
     | ownw w'=>
       simp only at h;by_cases hw:(w' == w&&r.w == w)=true
       . rw[Ac hw] at h;simp only[Ah,AV] at hw;obtain⟨rfl,hw'⟩:=hw
         cases ht:new.to r with
         |none=>rw[ht] at h;cases h
         | some n=>
           rw[ht] at h;simp only[Ak,Am] at h;obtain⟨rfl,rfl,rfl⟩:=h;have hk:=mv_ok (.sl (.ownw w') r l) hv rfl (λ _=>rfl) rfl;obtain⟨m1,m2⟩:=Fm x hs (by rw[hk];rfl);obtain⟨a1,a2⟩:=bq ht l hw';simp only[DV.enc,A6,M4 ht];rw[Ac ⟨hw0,trivial,hw'▸FT r l,hg⟩];exact⟨_,_,rfl,by rw[RL a2,a1];simp only[MY],m2⟩
       . rw[Af hw] at h;cases h
     | pre hd p=>
      match p,h with
      | [c],h=>
        simp only at h ⊢
        cases hk:CH d hd [c]<;>rw[hk] at h<;>try (cases h;done)
        rename_i q rh lh
        have hne:CH d hd [c]≠.any:=by rw[hk];simp
        have e1:=Kz hs hd [c] hne;rw[hk] at e1;have e3:=OG hs hd [c] .undef hne
        have tk:∀ {n:List rh.D},new.to rh=some n->rh.w=w->(lh.map (RT.enc rh)).take l.length++new.es=(lApp (lTake lh (lN l)) n).map (RT.enc rh)/\C9 w ((lh.map (RT.enc rh)).take l.length++new.es)=true:=by
         intro n ht hw';have:=bq ht (lh.take l.length) hw';rw[W5] at this;simp only[MY,bu,SG];exact this
        cases q<;>try (cases h;done)
        case own=>
         simp only at h;by_cases hw:(rh.w == w)=true
         . rw[Ac hw] at h
           have hw':rh.w=w:=by simpa using hw
           cases ht:new.to rh with
           |none=>rw[ht] at h;cases h
           | some n=>
             rw[ht] at h;simp only[Ak,Am] at h;obtain⟨rfl,rfl,rfl⟩:=h;obtain⟨a1,a2⟩:=tk ht hw';simp only[DV.enc,e1,A6,M4 ht];rw[Ac ⟨hw0,hw'▸FT rh lh,hg.1,hg.2.1,hg.2.2⟩];exact⟨_,_,rfl,by rw[RL a2,a1],e3⟩
         . rw[Af hw] at h;cases h
        case ownw w'=>
         simp only at h;by_cases hw:(w' == w&&rh.w == w)=true
         . rw[Ac hw] at h;simp only[Ah,AV] at hw;obtain⟨rfl,hw'⟩:=hw
           cases ht:new.to rh with
           |none=>rw[ht] at h;cases h
           | some n=>
             rw[ht] at h;simp only[Ak,Am] at h;obtain⟨rfl,rfl,rfl⟩:=h;obtain⟨a1,a2⟩:=tk ht hw';simp only[DV.enc,e1,A6,M4 ht];rw[Ac ⟨hw0,trivial,hw'▸FT rh lh,hg.1,hg.2.1,hg.2.2⟩];exact⟨_,_,rfl,by rw[RL a2,a1],e3⟩
         . rw[Af hw] at h;cases h
      |[],h=>cases h
      |_::_::_,h=>cases h
     |_=>cases h
   |_=>rw[hv] at h;cases h
 . simp only[h0] at h;cases h
theorem cv{w:Nat}{v v':DV}(h:SA w v=some v'):F2 w v.enc=some v'.enc:=by
 unfold SA at h;split at h
 . cases h;rfl
 . split at h
   . rename_i hw;have hw:=AV.mp hw;subst hw;cases h;simp only[DV.enc,F2,AO]
   . cases h
 . rename_i r l;split at h
   . rename_i hw;have hw:=AV.mp hw;cases h;simp only[DV.enc,F2];rw[Ac (hw▸FT r l)]
   . cases h
 . split at h
   . rename_i hw;have hw:=AV.mp hw;subst hw;cases h;simp only[DV.enc,F2,AO]
   . cases h
 . cases h
theorem lP:∀ (ws:List (Nat×Nat)) {l l':List DV},Xx ws l=some l'->Ny ws (DV.encL l)=some (DV.encL l')
 |[],l,l',h=>by cases h;rfl
 | (c,w)::r,l,l',h=>by
   unfold Xx at h
   split at h
   . rename_i v hv
     unfold Ny
     rw[<- OV,cv hv]
     simp only
     rw[<- Wc]
     exact lP r h
   . cases h
theorem ZbW{ws:List (Nat×Nat)}{v v':DV}(h:Nx ws v=some v'):Fc ws v.enc=some v'.enc:=by
 unfold Nx at h;split at h
 . simp only[BZ] at h;obtain⟨l',h1,rfl⟩:=h;show (Ny ws _).map PV.agg=_;rw[lP ws h1];rfl
 . rename_i q;split at h
   . exact cv (v:=.nil q) h
   . cases h
 . rename_i q r l;split at h
   . exact cv (v:=.sl q r l) h
   . cases h
 . cases h
theorem uA{ws:List (Nat×Nat)}{m:Bool}{o:AOp}{ty:Option RT}{d d':DS}{s:PS}{g:PX}{v:DV}(hs:ES d s)(h:MZ ws m o ty d=some (g,v,d'))(hg:g.den):∃ s' v0,BC m o s=some (v0,s')/\Fc ws v0=some v.enc/\ES d' s':=by
 have gen:(match Bp m o ty d with|some (g,v,st)=>(match Nx ws v with|some v=>some (g,v,st)|none=>none)|none=>none)=some (g,v,d')->∃ s' v0,BC m o s=some (v0,s')/\Fc ws v0=some v.enc/\ES d' s':=by
  intro h
  cases h1:Bp m o ty d with
  |none=>rw[h1] at h;cases h
  | some r=>
    obtain⟨g1,v1,d1⟩:=r;rw[h1] at h;simp only at h
    cases h2:Nx ws v1 with
    |none=>rw[h2] at h;cases h
    | some v2=>
      rw[h2] at h;simp only[Ak,Am] at h;obtain⟨rfl,rfl,rfl⟩:=h;obtain⟨s',e1,e2⟩:=Vd hs h1 hg;exact⟨s',_,e1,ZbW h2,e2⟩
 cases o<;>first|exact gen h|skip
 case app w x y=>
  simp only[MZ] at h;split at h
  . rename_i w';split at h
    . rename_i hw;have hw:=AV.mp hw;subst hw
      cases h1:JH w' y d with
      |none=>rw[h1] at h;cases h
      | some r=>
        obtain⟨new,d1⟩:=r;rw[h1] at h;obtain⟨s1,e1,e2⟩:=Zl hs h1;obtain⟨s2,v0,e3,e4,e5⟩:=vo e2 h hg;exact⟨s2,v0,by simp only[BC,e1];exact e3,e4,e5⟩
    . cases h
  . cases h
def Chg:List DC->List DC->Prop
 |_,[]=>True
 |[],c::r=>c.d=true/\Chg [] r
 |b::a,c::r=>(c.d=true\/c=b)/\Chg a r
def ChgB:List (List DC)->List (List DC)->Prop
 |_,[]=>True
 |[],c::r=>Chg [] c/\ChgB [] r
 |b::a,c::r=>Chg b c/\ChgB a r
structure ChgS (x y:DS):Prop where
 sl:Chg x.sl y.sl
 bx:ChgB x.bx y.bx
 hp:ChgB x.hp y.hp
theorem Chg.refl:∀ (x:List DC),Chg x x
 |[]=>trivial
 |_::r=>⟨.inr rfl,Chg.refl r⟩
theorem Chg.trans:∀ {x y z:List DC},Chg x y->Chg y z->Chg x z
 |_,_,[],_,_=>by cases ‹List DC›<;>trivial
 |[],[],_::_,_,h=>h
 |_::a,[],c::r,_,h=>⟨.inl h.1,Chg.trans (x:=a) (y:=[]) (by cases a<;>trivial) h.2⟩
 | [],b::a,c::r,h,h'=>by
   refine⟨?_,Chg.trans h.2 h'.2⟩
   rcases h'.1 with h1|h1
   . exact h1
   . rw[h1];exact h.1
 | e::x,b::a,c::r,h,h'=>by
   refine⟨?_,Chg.trans h.2 h'.2⟩
   rcases h'.1 with h1|h1
   . exact .inl h1
   . rw[h1];exact h.1
theorem ChgB.refl:∀ (x:List (List DC)),ChgB x x
 |[]=>trivial
 |b::r=>⟨Chg.refl b,ChgB.refl r⟩
theorem ChgB.trans:∀ {x y z:List (List DC)},ChgB x y->ChgB y z->ChgB x z
 |_,_,[],_,_=>by cases ‹List (List DC)›<;>trivial
 |[],[],_::_,_,h=>h
 |b::a,[],c::r,_,h=>⟨Chg.trans (y:=[]) (by trivial) h.1,ChgB.trans (x:=a) (y:=[]) (by cases a<;>trivial) h.2⟩
 |[],b::a,c::r,h,h'=>⟨h.1.trans h'.1,ChgB.trans h.2 h'.2⟩
 |e::x,b::a,c::r,h,h'=>⟨h.1.trans h'.1,ChgB.trans h.2 h'.2⟩
theorem ChgS.refl(x:DS):ChgS x x:=⟨Chg.refl _,ChgB.refl _,ChgB.refl _⟩
theorem ChgS.trans{x y z:DS}(h:ChgS x y)(h':ChgS y z):ChgS x z:=⟨h.sl.trans h'.sl,h.bx.trans h'.bx,h.hp.trans h'.hp⟩
theorem Chg.put:∀ (x:List DC) (n:Nat) (v:DV),Chg x (DX x n v)
 |[],_,_=>trivial
 |_::r,0,_=>⟨.inl rfl,Chg.refl r⟩
 |_::r,n+1,v=>⟨.inr rfl,Chg.put r n v⟩
theorem Chg.clr(hd:Hd):∀ (x:List DC),Chg x (Dw hd x)
 |[]=>trivial
 | c::r=>by
   refine⟨?_,Chg.clr hd r⟩
   split
   . exact .inl rfl
   . exact .inr rfl
theorem Chg.clearBox(i:Nat):∀ (x:List DC),Chg x (Q8 i x)
 |[]=>trivial
 | c::r=>by
   refine⟨?_,Chg.clearBox i r⟩
   split
   . exact .inl rfl
   . exact .inr rfl
theorem Chg.keep(live:List Nat):∀ (n:Nat) (x:List DC),Chg x (WT live n x)
 |_,[]=>trivial
 | n,c::r=>by
   refine⟨?_,Chg.keep live (n+1) r⟩
   split
   . split
     . exact .inl rfl
     . exact .inr rfl
   . exact .inl rfl
theorem Chg.trim(live:List Nat):∀ (n:Nat) (x:List DC),Chg x (Xc live n x)
 |_,[]=>trivial
 | n,c::r=>by
   refine⟨?_,Chg.trim live (n+1) r⟩
   split
   . exact .inr rfl
   . exact .inl rfl
theorem Chg.splice:∀ (x:List DC) (n:Nat) (vs:List DV),Chg x (Jk x n vs)
 |[],n,[]=>trivial
 |_::_,0,[]=>Chg.refl _
 |_::_,_+1,[]=>Chg.refl _
 |[],_,_::_=>trivial
 |_::r,0,v::vs=>⟨.inl rfl,Chg.splice r 0 vs⟩
 |_::r,n+1,v::vs=>⟨.inr rfl,Chg.splice r n (v::vs)⟩
theorem Chg.news:∀ (x:List DC) (vs:List DV),Chg x (Go.Ag.news vs)
 |x,[]=>by cases x<;>trivial
 |[],v::vs=>⟨rfl,Chg.news [] vs⟩
 |_::a,v::vs=>⟨.inl rfl,Chg.news a vs⟩
theorem ChgB.put:∀ (x:List (List DC)) (i:Nat) {v:List DC},Chg (BH x i) v->ChgB x (E7 x i v)
 |[],_,_,_=>trivial
 |_::r,0,_,h=>⟨h,ChgB.refl r⟩
 |_::r,n+1,v,h=>⟨Chg.refl _,ChgB.put r n h⟩
theorem ChgB.app:∀ (x:List (List DC)) (vs:List DV),ChgB x (x++[Go.Ag.news vs])
 |[],vs=>⟨Chg.news [] vs,trivial⟩
 |b::r,vs=>⟨Chg.refl b,ChgB.app r vs⟩
theorem Chg.rem:∀ {x y:List DC},Chg (Go.Ag.clean x) y->Chg x (PO x y)
 |x,[],_=>by cases x<;>trivial
 |[],_::_,h=>h
 | b :: a,c::r,h=>by
   refine⟨?_,Chg.rem h.2⟩
   rcases h.1 with h1|h1
   . left;simp[h1]
   . subst h1
     cases hb:b.d with
     |true=>left;rfl
     |false=>right;obtain⟨d,v⟩:=b;simp only at hb;subst hb;rfl
theorem ChgB.rem:∀ {x y:List (List DC)},ChgB (Po x) y->ChgB x (SK x y)
 |x,[],_=>by cases x<;>trivial
 |[],_::_,h=>h
 |b::a,c::r,h=>⟨h.1.rem,ChgB.rem h.2⟩
theorem ChgS.rem{x y:DS}(h:ChgS x.clean y):ChgS x (L5 x y):=⟨h.sl.rem,h.bx.rem,h.hp.rem⟩
theorem ChgS.put(d:DS)(n:Option Nat)(v:DV):ChgS d (d.put n v):=by
 cases n with
 |none=>exact ChgS.refl d
 | some n=>
   simp only[DS.put];split
   . exact⟨(Chg.put _ _ _).trans (Chg.clr _ _),ChgB.refl _,ChgB.refl _⟩
   . exact⟨Chg.put _ _ _,ChgB.refl _,ChgB.refl _⟩
theorem ChgS.mvOut(x:Opnd)(d:DS):ChgS d (Bo x d).2:=by
 cases x with
 |c v=>exact ChgS.refl d
 | t n=>
   simp only[Bo,SM];split
   . split
     . exact ChgS.refl d
     . exact⟨(Chg.put _ _ _).trans (Chg.clr _ _),ChgB.refl _,ChgB.refl _⟩
   . exact ChgS.refl d
theorem ChgS.fzOut(x:Opnd)(d:DS):ChgS d (Fs x d).2:=by
 cases x with
 |c v=>exact ChgS.refl d
 | t n=>
   simp only[Fs,SI];split
   . split
     . exact⟨(Chg.put _ _ _).trans (Chg.clr _ _),ChgB.refl _,ChgB.refl _⟩
     . exact ChgS.refl d
   . exact ChgS.refl d
theorem ChgS.setK(d:DS)(v:DV):∀ (hd:Hd) (p:List Nat),ChgS d (HI d v hd p)
 |.s t,p=>⟨(Chg.put _ _ _).trans (Chg.clr _ _),ChgB.refl _,ChgB.refl _⟩
 |.b i,[c]=>⟨Chg.clr _ _,ChgB.put _ _ (Chg.put _ _ _),ChgB.refl _⟩
 |.h i,[c]=>⟨Chg.clr _ _,ChgB.refl _,ChgB.put _ _ (Chg.put _ _ _)⟩
 |.b i,[]=>ChgS.refl d
 |.b i,_::_::_=>ChgS.refl d
 |.h i,[]=>ChgS.refl d
 |.h i,_::_::_=>ChgS.refl d
 |.x i,_=>ChgS.refl d
theorem ZM:∀ (ps:List (Nat×Nat×Opnd)) {cs cs':List DV} {d d':DS},Jy cs ps d=some (cs',d')->ChgS d d'
 | [],cs,cs',d,d',h=>by
   simp only[Jy,Ak,Am] at h
   obtain⟨_,rfl⟩:=h
   exact ChgS.refl d
 | (off,size,x)::r,cs,cs',d,d',h=>by
   unfold Jy at h
   split at h
   . exact(ChgS.mvOut x d).trans (ZM r h)
   . cases h
theorem ak{w:Nat}{y:Opnd}{d d':DS}{new:DSrc}(h:JH w y d=some (new,d')):ChgS d d':=by
 unfold JH at h
 split at h<;>(try split at h)<;>first|(cases h;done)|(simp only[Ak,Am] at h;obtain⟨_,rfl⟩:=h;first|exact ChgS.refl _|exact ChgS.mvOut y d)
theorem jX{w:Nat}{x:Opnd}{new:DSrc}{d d':DS}{g:PX}{v:DV}(h:Me w x new d=some (g,v,d')):ChgS d d':=by
 unfold Me at h;split at h
 . cases h
 . repeat' split at h
   all_goals first|(cases h;done)|(simp only[Ak,Am] at h;obtain⟨_,_,rfl⟩:=h;first|exact ChgS.mvOut x d|exact ChgS.setK _ _ _ _)
theorem Zr{m:Bool}{i:Nat}{n:Option Nat}{a:DV}{d d':DS}{g:PX}{v:DV}(h:LP m i n a d=some (g,v,d')):ChgS d d':=by
 unfold LP at h;split at h
 . cases m with
   | true=>
     simp only[AO] at h;split at h
     . simp only[BZ,Am] at h;obtain⟨_,_,_,_,rfl⟩:=h;exact⟨Chg.clr _ _,ChgB.put _ _ (Chg.splice _ _ _),ChgB.refl _⟩
     . cases h
   | false=>
     simp only[AK,AS] at h;split at h
     . simp only[BZ,Am] at h;obtain⟨_,_,_,_,rfl⟩:=h;exact ChgS.refl _
     . cases h
 . cases h
theorem Zj{m:Bool}{n:Option Nat}{a:DV}{d d':DS}{g:PX}{v:DV}(h:KL m n a d=some (g,v,d')):ChgS d d':=by
 unfold KL at h;split at h
 . cases m with
   | true=>
     simp only[AO] at h;split at h
     . simp only[BZ,Am] at h;obtain⟨_,_,_,_,rfl⟩:=h;exact⟨Chg.clr _ _,ChgB.refl _,ChgB.put _ _ (Chg.splice _ _ _)⟩
     . cases h
   | false=>
     simp only[AK,AS] at h;split at h
     . simp only[BZ,Am] at h;obtain⟨_,_,_,_,rfl⟩:=h;exact ChgS.refl _
     . cases h
 . split at h
   . split at h
     . simp only[BZ,Am] at h;obtain⟨_,_,_,_,rfl⟩:=h;exact ChgS.refl _
     . cases h
   . cases h
 . cases h
theorem vw{i n:Nat}{a x:Opnd}{d d':DS}{g:PX}{v:DV}(h:RD i n a x d=some (g,v,d')):ChgS d d':=by
 unfold RD at h;simp only at h;split at h
 . split at h
   . simp only[Ak,Am] at h;obtain⟨_,_,rfl⟩:=h;refine(ChgS.mvOut x d).trans ⟨?_,ChgB.put _ _ (Chg.splice _ _ _),ChgB.refl _⟩;split
     . exact Chg.clr _ _
     . exact Chg.refl _
   . cases h
 . cases h
theorem uZ{n:Nat}{a x:Opnd}{d d':DS}{g:PX}{v:DV}(h:RE n a x d=some (g,v,d')):ChgS d d':=by
 unfold RE at h;simp only at h;split at h
 . split at h
   . simp only[Ak,Am] at h;obtain⟨_,_,rfl⟩:=h;refine(ChgS.mvOut x d).trans ⟨?_,ChgB.refl _,ChgB.put _ _ (Chg.splice _ _ _)⟩;dsimp only;split
     . exact Chg.clr _ _
     . exact Chg.refl _
   . cases h
 . split at h
   . split at h
     . split at h
       . simp only[Ak,Am] at h;obtain⟨_,_,rfl⟩:=h;exact(ChgS.mvOut x d).trans (ChgS.setK _ _ _ _)
       . cases h
     . cases h
   . cases h
 . cases h
theorem ib{m:Bool}{n:Option Nat}{a:DV}{d d':DS}{r:Ez}{g:PX}{v:DV}(h:MU m n a d=some r)(hr:r=some (g,v,d')):ChgS d d':=by cases h
theorem vi{n:Nat}{hd:Hd}{p k j o:Nat}{w:DV}{d d':DS}{g:PX}{v:DV}(h:aQ n hd p k j o w d=some (g,v,d')):ChgS d d':=by cases h
theorem Zbd(x:Opnd)(d:DS):(KF x d).2=d:=by cases x<;>rfl
theorem xi{w:Nat}{new:DSrc}{d d':DS}{g:PX}{v:DV}(h:LU w new d=some (g,v,d')):d'=d:=by
 unfold LU at h;split at h<;>(simp only[Ak,Am] at h;exact h.2.2.symm)
theorem xf{w:Nat}{x:Opnd}{new:DSrc}{d d':DS}{g:PX}{v:DV}(h:R8 w x new d=some (g,v,d')):ChgS d d':=by
 unfold R8 at h;split at h
 . cases h
 . repeat' split at h
   all_goals first|(cases h;done)|(have:=xi h;subst this;exact ChgS.mvOut x d)|(simp only[Ak,Am] at h;obtain⟨_,_,rfl⟩:=h;first|exact ChgS.mvOut x d|exact ChgS.setK _ _ _ _)
theorem VF{m:Bool}{o:AOp}{ty:Option RT}{d d':DS}{g:PX}{v:DV}(h:Bp m o ty d=some (g,v,d')):ChgS d d':=by
 have pure:(PA o (λ x=>x.dev d.sl)).map (λ r=>(r.1,r.2,d))=some (g,v,d')->ChgS d d':=λ h=>by
  simp only[BZ,Am] at h;obtain⟨_,_,_,_,rfl⟩:=h;exact ChgS.refl _
 cases o<;>first|exact pure h|skip
 case mv x=>
  cases m with
  | true=>
    simp only[Bp,AO] at h;split at h
    . simp only[Ak,Am] at h;obtain⟨_,_,rfl⟩:=h;rw[Zbd];exact ChgS.refl d
    . cases h
  | false=>
    simp only[Bp,AK,AS] at h;split at h
    . simp only[Ak,Am] at h;obtain⟨_,_,rfl⟩:=h;exact ChgS.mvOut x d
    . cases h
 case loadB i n a=>exact Zr h
 case loadH n a=>
  simp only[Bp] at h;split at h
  . rename_i h1;exact ib h1 h
  . exact Zj h
 case loadX i c n a=>
  simp only[Bp] at h;split at h
  . split at h
    . rename_i h1;exact ib h1 h
    . cases h
  . cases h
 case storeB i n a x=>exact vw h
 case storeH n a x=>
  simp only[Bp] at h;split at h
  . split at h
    . exact vi h
    . exact uZ h
  . cases h
 case app w x y=>
  simp only[Bp] at h;split at h
  . rename_i h1;exact(ak h1).trans (jX h)
  . cases h
 case appN w x y=>
  simp only[Bp] at h;split at h
  . split at h
    . rename_i h1;exact(ak h1).trans (jX h)
    . cases h
  . cases h
 case allocB i zs=>
  simp only[Bp] at h;split at h
  . simp only[Ak,Am] at h;obtain⟨_,_,rfl⟩:=h;exact⟨(Chg.clearBox _ _).trans (Chg.clr _ _),ChgB.put _ _ (Chg.news _ _),ChgB.refl _⟩
  . cases h
 case boxB i n x=>
  simp only[Bp] at h;split at h
  . simp only[Ak,Am] at h;obtain⟨_,_,rfl⟩:=h;exact(ChgS.mvOut x d).trans ⟨(Chg.clearBox _ _).trans (Chg.clr _ _),ChgB.put _ _ (Chg.news _ _),ChgB.refl _⟩
  . cases h
 case allocH zs=>
  simp only[Bp] at h;split at h
  . simp only[Ak,Am] at h;obtain⟨_,_,rfl⟩:=h;exact⟨Chg.clr _ _,ChgB.refl _,ChgB.app _ _⟩
  . cases h
 case boxH n x=>
  simp only[Bp] at h;split at h
  . simp only[Ak,Am] at h;obtain⟨_,_,rfl⟩:=h;exact(ChgS.mvOut x d).trans ⟨Chg.clr _ _,ChgB.refl _,ChgB.app _ _⟩
  . cases h
 case build zs ps=>
  simp only[Bp] at h;split at h
  . split at h
    . rename_i hf;simp only[Ak,Am] at h;obtain⟨_,_,rfl⟩:=h;exact ZM ps hf
    . cases h
  . cases h
 case mkSlice w z len=>
  simp only[Bp] at h
  repeat' split at h
  all_goals first|(cases h;done)|(simp only[Ak,Am] at h;obtain⟨_,_,rfl⟩:=h;exact ChgS.refl _)
 case litSlice w n zs ps=>
  simp only[Bp] at h;split at h
  . simp only[Ak,Am] at h;obtain⟨_,_,rfl⟩:=h;exact ChgS.refl _
  . split at h
    . split at h
      . rename_i hf;have:=ZM ps hf
        repeat' split at h
        all_goals first|(cases h;done)|(simp only[Ak,Am] at h;obtain⟨_,_,rfl⟩:=h;exact this)
      . cases h
    . cases h
 case extract x i=>
  simp only[Bp] at h
  repeat' split at h
  all_goals first|(cases h;done)|(simp only[Ak,Am] at h;obtain⟨_,_,rfl⟩:=h;first|exact ChgS.refl _|exact⟨(Chg.put _ _ _).trans (Chg.clr _ _),ChgB.refl _,ChgB.refl _⟩)
theorem wA{ws:List (Nat×Nat)}{m:Bool}{o:AOp}{ty:Option RT}{d d':DS}{g:PX}{v:DV}(h:MZ ws m o ty d=some (g,v,d')):ChgS d d':=by
 have gen:(match Bp m o ty d with|some (g,v,st)=>(match Nx ws v with|some v=>some (g,v,st)|none=>none)|none=>none)=some (g,v,d')->ChgS d d':=by
  intro h
  cases h1:Bp m o ty d with
  |none=>rw[h1] at h;cases h
  | some r=>
    obtain⟨g1,v1,d1⟩:=r;rw[h1] at h;simp only at h
    cases h2:Nx ws v1 with
    |none=>rw[h2] at h;cases h
    | some v2=>
      rw[h2] at h;simp only[Ak,Am] at h;obtain⟨_,_,rfl⟩:=h;exact VF h1
 cases o<;>first|exact gen h|skip
 case app w x y=>
  simp only[MZ] at h;split at h
  . split at h
    . split at h
      . rename_i h1;exact(ak h1).trans (xf h)
      . cases h
    . cases h
  . cases h
theorem De{α:Type}(x y:α):bSel true x y=x:=by simp only[cg,Hv,Hr]
theorem CS{α:Type}(x y:α):bSel false x y=y:=by simp only[cg,Hv,Hr]
theorem l8(c:Bool)(x y:BX):(Xr c x y).b=bif c then x.b else y.b:=by
 cases x<;>cases y<;>rename_i x y<;>cases c<;>cases x<;>cases y<;>simp[Xr,BX.b,Ps,mJ,cy,cg]
theorem M7{q q':Ql}(h:Fb q q'=true):q=q':=of_decide_eq_true h
mutual
theorem WO(c:Bool):∀ (x y:DV),DF c x y= .any\/(DF c x y).enc=(bif c then x.enc else y.enc)
 | .undef,y=>by
   cases y<;>first|exact .inl rfl|skip
   case undef=>cases c<;>exact .inr rfl
 | .bool a,y=>by
   cases y<;>first|exact .inl rfl|skip
   case bool b=>right;simp only[DF,DV.enc,l8];cases c<;>rfl
 | .int k a,y=>by
   cases y<;>first|exact .inl rfl|skip
   case int k' b=>
    simp only[DF]
    split
    . rename_i hk;have:=Wk hk;subst this
      right;cases c<;>simp only[DV.enc,De,CS,Hv,Hr]
    . exact .inl rfl
 | .str a,y=>by
   cases y<;>first|exact .inl rfl|skip
   case str b=>right;cases c<;>simp only[DF,DV.enc,De,CS,Hv,Hr]
 | .ifc a,y=>by
   cases y<;>first|exact .inl rfl|skip
   case ifc b=>right;cases c<;>simp only[DF,DV.enc,De,CS,Hv,Hr]
 | .nil q,y=>by
   cases y<;>first|exact .inl rfl|skip
   case nil q'=>
    simp only[DF]
    split
    . rename_i hq;have:=M7 hq;subst this;right;cases c<;>rfl
    . exact .inl rfl
   case sl q' r l=>
    simp only[DF]
    split
    . rename_i hq;have:=M7 hq;subst this;right
      cases c<;>simp only[DV.enc,De,CS,Hv,Hr,Pp]
    . exact .inl rfl
 | .sl q r l,y=>by
   cases y<;>first|exact .inl rfl|skip
   case nil q'=>
    simp only[DF]
    split
    . rename_i hq;have:=M7 hq;subst this;right
      cases c<;>simp only[DV.enc,De,CS,Hv,Hr,Pp]
    . exact .inl rfl
   case sl q' r' l'=>
    simp only[DF]
    split
    . rename_i hq;have:=M7 hq;subst this
      split
      . rename_i l2 hl
        right
        cases c<;>simp only[DV.enc,De,CS,Hv,Hr,(Rl hl).2]
      . exact .inl rfl
    . exact .inl rfl
 | .box i o,y=>by
   cases y<;>first|exact .inl rfl|skip
   case box i' o'=>
    simp only[DF]
    split
    . rename_i h;simp only[Ah,AV] at h;obtain⟨rfl,rfl⟩:=h;right;cases c<;>rfl
    . exact .inl rfl
 | .ptr i o,y=>by
   cases y<;>first|exact .inl rfl|skip
   case ptr i' o'=>
    simp only[DF]
    split
    . rename_i h;simp only[Ah,AV] at h;obtain⟨rfl,rfl⟩:=h;right;cases c<;>rfl
    . exact .inl rfl
 | .agg a,y=>by
   cases y<;>first|exact .inl rfl|skip
   case agg b=>
    simp only[DF]
    split
    . rename_i h;simp only[Ah,AV] at h
      right
      have:=ba c a b h.1 h.2
      cases c<;>simp only[DV.enc,this,Hv,Hr]
    . exact .inl rfl
 | .tup a,y=>by
   cases y<;>first|exact .inl rfl|skip
   case tup b=>
    simp only[DF]
    split
    . rename_i h;simp only[Ah,AV] at h
      right
      have:=ba c a b h.1 h.2
      cases c<;>simp only[DV.enc,this,Hv,Hr]
    . exact .inl rfl
 |.any,y=>by cases y<;>exact .inl rfl
 |.ep _ _ _ _ _,y=>by cases y<;>exact .inl rfl
theorem ba(c:Bool):∀ (x y:List DV),x.length=y.length->DV.okL (KO c x y)=true->DV.encL (KO c x y)=(bif c then DV.encL x else DV.encL y)
 |[],[],_,_=>by cases c<;>rfl
 |[],_::_,h,_=>by cases h
 |_::_,[],h,_=>by cases h
 | x :: a,y::b,h,hk=>by
   simp only[KO,DV.okL,Ah] at hk
   have h1:=ba c a b (by simpa using h) hk.2
   rcases WO c x y with h2|h2
   . rw[h2] at hk;cases hk.1
   . simp only[KO,DV.encL,h1,h2]
     cases c<;>rfl
end
theorem ZaL{c:Bool}{x y:DV}{p:PV}(h:EV (bif c then x else y) p):EV (DF c x y) p:=by
 rcases WO c x y with h1|h1
 . exact .inl h1
 . cases c with
   | true=>
     rcases h with h|h
     . simp only[Hv] at h;subst h;exact .inl (by cases y<;>rfl)
     . exact .inr (by rw[h1];exact h)
   | false=>
     rcases h with h|h
     . simp only[Hr] at h;subst h;exact .inl (by cases x<;>rfl)
     . exact .inr (by rw[h1];exact h)
theorem aJ{c:Bool}:∀ {b x y:List DC} {p:List PV},Chg b x->Chg b y->x.length=y.length->EL (bif c then x else y) p->EL (Sf c x y) p
 |_,[],[],p,_,_,_,h=>by cases c<;>exact h
 |_,[],_::_,_,_,_,h,_=>by cases h
 |_,_::_,[],_,_,_,h,_=>by cases h
 |b,x::a,y::e,[],_,_,_,h=>by cases c<;>exact h.elim
 | b,x::a,y::e,q::p,h1,h2,hl,h=>by
   have hr:∃ b',Chg b' a/\Chg b' e/\((x.d=true\/y.d=true)\/x=y):=by
    cases b with
    |nil=>exact⟨[],h1.2,h2.2,.inl (.inl h1.1)⟩
    | cons b0 b=>
      refine⟨b,h1.2,h2.2,?_⟩;rcases h1.1 with e1|e1
      . exact .inl (.inl e1)
      . rcases h2.1 with e2|e2
        . exact .inl (.inr e2)
        . exact .inr (e1.trans e2.symm)
   obtain⟨b',h3,h4,h5⟩:=hr;have ih:=aJ (c:=c) (p:=p) h3 h4 (by simpa using hl) (by cases c<;>exact h.2);refine⟨?_,ih⟩
   have hv:EV (bif c then x.v else y.v) q:=by cases c<;>exact h.1
   unfold XB;split
   . exact ZaL hv
   . rename_i hd;rcases h5 with h5|h5
     . exfalso;apply hd;rcases h5 with h5|h5<;>simp[h5]
     . subst h5;cases c<;>exact hv
theorem bc{c:Bool}:∀ {b x y:List (List DC)} {p:List (List PV)},ChgB b x->ChgB b y->x.length=y.length->EB (bif c then x else y) p->EB (Sv c x y) p
 |_,[],[],p,_,_,_,h=>by cases c<;>exact h
 |_,[],_::_,_,_,_,h,_=>by cases h
 |_,_::_,[],_,_,_,h,_=>by cases h
 |b,x::a,y::e,[],_,_,_,h=>by cases c<;>exact h.elim
 | b,x::a,y::e,q::p,h1,h2,hl,h=>by
   have hr:∃ b0 b',Chg b0 x/\Chg b0 y/\ChgB b' a/\ChgB b' e:=by
    cases b with
    |nil=>exact⟨[],[],h1.1,h2.1,h1.2,h2.2⟩
    |cons b0 b=>exact⟨b0,b,h1.1,h2.1,h1.2,h2.2⟩
   obtain⟨b0,b',h3,h4,h5,h6⟩:=hr;have ih:=bc (c:=c) (p:=p) h5 h6 (by simpa using hl) (by cases c<;>exact h.2);refine⟨?_,ih⟩
   have hv:EBx (bif c then x else y) q:=by cases c<;>exact h.1
   split
   . rename_i hxy
     have hxy:x.length=y.length:=by simpa using hxy
     rcases hv with hv|hv
     . cases c
       . simp only[Hr] at hv;subst hv;have:x=[]:=EH hxy;subst this;exact .inl rfl
       . simp only[Hv] at hv;subst hv;have:y=[]:=EH hxy.symm;subst this;exact .inl rfl
     . exact .inr (aJ h3 h4 hxy hv)
   . exact .inl rfl
theorem Zbo{c:Bool}{b x y z:DS}{s:PS}(hx:ChgS b x)(hy:ChgS b y)(h:Nu c x y=some z)(hs:ES (bif c then x else y) s):ES z s:=by
 unfold Nu at h;split at h
 . rename_i hl;simp only[Ah,AV] at hl;simp only[Ak] at h;subst h;exact⟨aJ hx.sl hy.sl hl.1.1 (by cases c<;>exact hs.sl),bc hx.bx hy.bx hl.1.2 (by cases c<;>exact hs.bx),bc hx.hp hy.hp hl.2 (by cases c<;>exact hs.hp)⟩
 . cases h
theorem Rb{c:Bool}:∀ {b x y:List DC},Chg b x->Chg b y->Chg b (Sf c x y)
 |b,[],_,_,_=>by cases b<;>trivial
 |b,_::_,[],_,_=>by cases b<;>trivial
 |[],x::a,y::e,h,h'=>⟨by simp[XB,h.1],Rb h.2 h'.2⟩
 | b::_,x::a,y::e,h,h'=>by
   refine⟨?_,Rb h.2 h'.2⟩
   unfold XB
   split
   . exact .inl rfl
   . exact h.1
theorem VE{c:Bool}:∀ {b x y:List (List DC)},ChgB b x->ChgB b y->ChgB b (Sv c x y)
 |b,[],_,_,_=>by cases b<;>trivial
 |b,_::_,[],_,_=>by cases b<;>trivial
 | [],x::a,y::e,h,h'=>by
   refine⟨?_,VE h.2 h'.2⟩
   split
   . exact Rb h.1 h'.1
   . trivial
 | b::_,x::a,y::e,h,h'=>by
   refine⟨?_,VE h.2 h'.2⟩
   split
   . exact Rb h.1 h'.1
   . cases b<;>trivial
theorem zu{c:Bool}{b x y z:DS}(hx:ChgS b x)(hy:ChgS b y)(h:Nu c x y=some z):ChgS b z:=by
 unfold Nu at h;split at h
 . simp only[Ak] at h;subst h;exact⟨Rb hx.sl hy.sl,VE hx.bx hy.bx,VE hx.hp hy.hp⟩
 . cases h
theorem PX.land_den:∀ (a b:PX),(a.land b).den↔a.den/\b.den
 |.tt,b=>by simp[PX.land,PX.den]
 |.ff,b=>by simp[PX.land,PX.den]
 |.p h,b=>by cases b<;>simp[PX.land,PX.den]
 |.and x y,b=>by cases b<;>simp[PX.land,PX.den]
 |.ite c x y,b=>by cases b<;>simp[PX.land,PX.den]
theorem PX.if_den(c:Bool)(a b:PX):(PX.if' c a b).den↔(c=true->a.den)/\(c=false->b.den):=by
 cases a<;>cases b<;>simp[PX.if',PX.den]
def AExit.isN:AExit->Bool
 |.normal=>true
 |_=>false
def DT.lf:DT->Option (AExit×DS)
 |.leaf e st=>some (e,st)
 |.node c a b=>(match c with|true=>a.lf|false=>b.lf)
 |.chk _ t=>t.lf
 |.bad=>none
def DT.All(P:DS->Prop):DT->Prop
 |.leaf _ st=>P st
 |.node _ a b=>a.All P/\b.All P
 |.chk _ t=>t.All P
 |.bad=>True
theorem DT.All.imp{P Q:DS->Prop}(h:∀ st,P st->Q st):∀ {t:DT},t.All P->t.All Q
 |.leaf _ _,a=>h _ a
 |.node _ _ _,a=>⟨DT.All.imp h a.1,DT.All.imp h a.2⟩
 |.chk _ t,a=>DT.All.imp h (t:=t) a
 |.bad,_=>trivial
theorem DT.ok_lf:∀ {t:DT},t.ok.den->∃ e st,t.lf=some (e,st)
 |.leaf e st,_=>⟨e,st,rfl⟩
 | .node c a b,h=>by
   have h:=(PX.if_den c a.ok b.ok).mp h
   cases c
   . exact DT.ok_lf (t:=b) (h.2 rfl)
   . exact DT.ok_lf (t:=a) (h.1 rfl)
 |.chk g t,h=>DT.ok_lf (t:=t) ((PX.land_den g t.ok).mp h).2
 |.bad,h=>h.elim
theorem DT.All.lf{P:DS->Prop}:∀ {t:DT} {e:AExit} {st:DS},t.All P->t.lf=some (e,st)->P st
 |.leaf e st,_,_,h,hl=>by simp only[DT.lf,Ak,Am] at hl;obtain⟨_,rfl⟩:=hl;exact h
 | .node c a b,_,_,h,hl=>by
   cases c
   . exact DT.All.lf (t:=b) h.2 hl
   . exact DT.All.lf (t:=a) h.1 hl
 |.chk g t,_,_,h,hl=>DT.All.lf (t:=t) h hl
 |.bad,_,_,_,hl=>by cases hl
theorem DT.norm_chg{b:DS}:∀ {t:DT} {m:DS},t.All (ChgS b)->t.norm= .some m->ChgS b m
 | .leaf e st,m,h,hn=>by
   cases e<;>simp only[DT.norm,reduceCtorEq,NS.some.injEq] at hn
   subst hn;exact h
 | .node c x y,m,h,hn=>by
   simp only[DT.norm] at hn
   cases h1:x.norm with
   |none=>rw[h1] at hn;exact DT.norm_chg h.2 hn
   | fail=>
     rw[h1] at hn
     cases h2:y.norm<;>rw[h2] at hn<;>cases hn
   | some a=>
     rw[h1] at hn
     cases h2:y.norm with
     |none=>rw[h2] at hn;exact DT.norm_chg h.1 (h1.trans hn)
     |fail=>rw[h2] at hn;cases hn
     | some e=>
       rw[h2] at hn
       simp only at hn
       cases h3:Nu c a e with
       |none=>rw[h3] at hn;cases hn
       | some z=>
         rw[h3] at hn
         simp only[NS.some.injEq] at hn
         subst hn
         exact zu (DT.norm_chg h.1 h1) (DT.norm_chg h.2 h2) h3
 |.chk g t,m,h,hn=>DT.norm_chg (t:=t) h hn
 |.bad,m,h,hn=>by cases hn
theorem DT.norm_none:∀ {t:DT} {e:AExit} {st:DS},t.norm= .none->t.lf=some (e,st)->e.isN=false
 | .leaf e st,_,_,hn,hl=>by
   simp only[DT.lf,Ak,Am] at hl;obtain⟨rfl,_⟩:=hl
   cases e<;>first|rfl|cases hn
 | .node c x y,e,st,hn,hl=>by
   simp only[DT.norm] at hn
   have hxy:x.norm= .none/\y.norm= .none:=by
    cases h1:x.norm<;>rw[h1] at hn<;>cases h2:y.norm<;>rw[h2] at hn<;>first|exact⟨rfl,rfl⟩|(cases hn;done)|(simp only at hn;split at hn<;>cases hn)
   cases c
   . exact DT.norm_none hxy.2 hl
   . exact DT.norm_none hxy.1 hl
 |.chk g t,_,_,hn,hl=>DT.norm_none (t:=t) hn hl
 |.bad,_,_,_,hl=>by cases hl
theorem DT.norm_s{b:DS}:∀ {t:DT} {m st:DS} {s:PS},t.All (ChgS b)->t.norm= .some m->t.lf=some (.normal,st)->ES st s->ES m s
 | .leaf e st0,m,st,s,h,hn,hl,hs=>by
   simp only[DT.lf,Ak,Am] at hl
   obtain⟨rfl,rfl⟩:=hl
   simp only[DT.norm,NS.some.injEq] at hn
   subst hn;exact hs
 | .node c x y,m,st,s,h,hn,hl,hs=>by
   simp only[DT.norm] at hn
   cases h1:x.norm with
   | none=>
     rw[h1] at hn
     cases c with
     |true=>have:=DT.norm_none h1 hl;cases this
     |false=>exact DT.norm_s h.2 hn hl hs
   | fail=>
     rw[h1] at hn
     cases h2:y.norm<;>rw[h2] at hn<;>cases hn
   | some a=>
     rw[h1] at hn
     cases h2:y.norm with
     | none=>
       rw[h2] at hn
       cases c with
       |true=>exact DT.norm_s h.1 (h1.trans hn) hl hs
       |false=>have:=DT.norm_none h2 hl;cases this
     |fail=>rw[h2] at hn;cases hn
     | some e=>
       rw[h2] at hn
       simp only at hn
       cases h3:Nu c a e with
       |none=>rw[h3] at hn;cases hn
       | some z=>
         rw[h3] at hn
         simp only[NS.some.injEq] at hn
         subst hn
         refine Zbo (DT.norm_chg h.1 h1) (DT.norm_chg h.2 h2) h3 ?_
         cases c with
         |true=>exact DT.norm_s h.1 h1 hl hs
         |false=>exact DT.norm_s h.2 h2 hl hs
 |.chk g t,m,st,s,h,hn,hl,hs=>DT.norm_s (t:=t) h hn hl hs
 |.bad,m,st,s,h,hn,hl,hs=>by cases hl
theorem DT.cont_s:∀ {t:DT} {b:BX} {e:AExit} {st:DS},t.cont=some b->t.lf=some (e,st)->b.b=e.isN
 | .leaf e st0,b,e',st,hc,hl=>by
   simp only[DT.lf,Ak,Am] at hl;obtain⟨rfl,_⟩:=hl;cases e<;>simp only[DT.cont,Ak] at hc<;>subst hc<;>rfl
 | .node c x y,b,e,st,hc,hl=>by
   have hno:∀ {t:DT},t.cont=none->t.lf=none:=by
    intro t
    induction t with
    |leaf e st=>intro h;cases e<;>cases h
    | node c x y ih1 ih2=>
      intro h;simp only[DT.cont] at h
      cases h1:x.cont<;>rw[h1] at h<;>cases h2:y.cont<;>rw[h2] at h<;>first|(cases h;done)|skip
      cases c
      . exact ih2 h2
      . exact ih1 h1
    |chk g t ih=>intro h;exact ih h
    |bad=>intro _;rfl
   simp only[DT.cont] at hc
   cases h1:x.cont with
   | none=>
     rw[h1] at hc
     cases c with
     |true=>simp only[DT.lf,hno h1] at hl;cases hl
     |false=>exact DT.cont_s hc hl
   | some p=>
     rw[h1] at hc
     cases h2:y.cont with
     | none=>
       rw[h2] at hc
       cases c with
       |true=>exact DT.cont_s (h1.trans hc) hl
       |false=>simp only[DT.lf,hno h2] at hl;cases hl
     | some q=>
       rw[h2] at hc;simp only[Ak] at hc;subst hc;rw[l8]
       cases c with
       |true=>exact DT.cont_s h1 hl
       |false=>exact DT.cont_s h2 hl
 |.chk g t,b,e,st,hc,hl=>DT.cont_s (t:=t) hc hl
 |.bad,b,e,st,hc,hl=>by cases hl
theorem DT.cont_none:∀ {t:DT},t.cont=none->t.lf=none
 |.leaf e st,h=>by cases e<;>cases h
 | .node c x y,h=>by
   simp only[DT.cont] at h
   cases h1:x.cont<;>rw[h1] at h<;>cases h2:y.cont<;>rw[h2] at h<;>first|(cases h;done)|skip
   cases c
   . exact DT.cont_none (t:=y) h2
   . exact DT.cont_none (t:=x) h1
 |.chk g t,h=>DT.cont_none (t:=t) h
 |.bad,_=>rfl
theorem DT.drop_lf:∀ {t:DT} {e:AExit} {st:DS},t.lf=some (e,st)->e.isN=false->t.drop.lf=some (e,st)
 | .leaf e st0,e',st,hl,he=>by
   simp only[DT.lf,Ak,Am] at hl;obtain⟨rfl,rfl⟩:=hl
   cases e<;>first|rfl|cases he
 | .node c x y,e,st,hl,he=>by
   have hnb:∀ a b:DT,(DT.nodeB c a b).lf=some (e,st)\/(match c with|true=>a.lf|false=>b.lf)≠some (e,st):=by
    intro a b
    cases c with
    | true=>
      cases ha:a with
      |bad=>right;simp[DT.lf]
      | _=>
        rw[<- ha];by_cases h:a.lf=some (e,st)
        . left;cases hb:b<;>rw[ha] at h ⊢<;>exact h
        . right;exact h
    | false=>
      cases hb:b with
      |bad=>right;simp[DT.lf]
      | _=>
        rw[<- hb];by_cases h:b.lf=some (e,st)
        . left;cases ha:a<;>rw[hb] at h ⊢<;>exact h
        . right;exact h
   simp only[DT.drop];rcases hnb x.drop y.drop with h|h
   . exact h
   . exfalso;apply h
     cases c with
     |true=>exact DT.drop_lf (t:=x) hl he
     |false=>exact DT.drop_lf (t:=y) hl he
 |.chk g t,e,st,hl,he=>DT.drop_lf (t:=t) hl he
 |.bad,e,st,hl,he=>by cases hl
theorem DT.drop_all{P:DS->Prop}:∀ {t:DT},t.All P->t.drop.All P
 |.leaf e st,h=>by cases e<;>first|trivial|exact h
 | .node c x y,h=>by
   have h1:=DT.drop_all h.1
   have h2:=DT.drop_all h.2
   simp only[DT.drop]
   cases hx:x.drop<;>cases hy:y.drop<;>rw[hx] at h1<;>rw[hy] at h2<;>first|trivial|exact h1|exact h2|exact⟨h1,h2⟩
 |.chk g t,h=>DT.drop_all (t:=t) h
 |.bad,_=>trivial
theorem DT.map_lf(f:DS->DS):∀ (t:DT),(t.map f).lf=t.lf.map λ x=>(x.1,f x.2)
 |.leaf _ _=>rfl
 | .node c a b=>by
   cases c
   . exact DT.map_lf f b
   . exact DT.map_lf f a
 |.chk _ t=>DT.map_lf f t
 |.bad=>rfl
theorem DT.map_ok(f:DS->DS):∀ (t:DT),(t.map f).ok=t.ok
 |.leaf _ _=>rfl
 |.node c a b=>by simp only[DT.map,DT.ok,DT.map_ok f a,DT.map_ok f b]
 |.chk _ t=>by simp only[DT.map,DT.ok,DT.map_ok f t]
 |.bad=>rfl
theorem DT.map_all{P Q:DS->Prop}{f:DS->DS}(h:∀ st,P st->Q (f st)):∀ {t:DT},t.All P->(t.map f).All Q
 |.leaf _ _,a=>h _ a
 |.node _ _ _,a=>⟨DT.map_all h a.1,DT.map_all h a.2⟩
 |.chk _ t,a=>DT.map_all h (t:=t) a
 |.bad,_=>trivial
theorem DT.unexit_ok(i:Nat):∀ (t:DT),(t.unexit i).ok=t.ok
 | .leaf e st=>by
   cases e<;>first|rfl|skip
   simp only[DT.unexit];split<;>rfl
 |.node c a b=>by simp only[DT.unexit,DT.ok,DT.unexit_ok i a,DT.unexit_ok i b]
 |.chk _ t=>by simp only[DT.unexit,DT.ok,DT.unexit_ok i t]
 |.bad=>rfl
def AExit.un(i:Nat):AExit->AExit
 |.exit j=>if j=i then .normal else .exit j
 |e=>e
theorem DT.unexit_lf(i:Nat):∀ (t:DT),(t.unexit i).lf=t.lf.map λ x=>(x.1.un i,x.2)
 | .leaf e st=>by
   cases e<;>first|rfl|skip
   rename_i j
   simp only[DT.unexit,DT.lf,Cq,AExit.un]
   by_cases h:j=i
   . rw[Ac (by simpa using h),Ac h];rfl
   . rw[Af (by simpa using h),Af h];rfl
 | .node c a b=>by
   cases c
   . exact DT.unexit_lf i b
   . exact DT.unexit_lf i a
 |.chk _ t=>DT.unexit_lf i t
 |.bad=>rfl
theorem DT.unexit_all{P:DS->Prop}(i:Nat):∀ {t:DT},t.All P->(t.unexit i).All P
 | .leaf e st,a=>by
   cases e<;>first|exact a|skip
   simp only[DT.unexit];split<;>exact a
 |.node _ _ _,a=>⟨DT.unexit_all i a.1,DT.unexit_all i a.2⟩
 |.chk _ t,a=>DT.unexit_all i (t:=t) a
 |.bad,_=>trivial
theorem DT.chk_ok(g:PX)(t:DT):(DT.chk' g t).ok.den↔g.den/\t.ok.den:=by
 cases g<;>simp only[DT.chk',DT.ok,PX.land_den,PX.den,Gh]
theorem DT.chk_lf(g:PX)(t:DT):(DT.chk' g t).lf=t.lf:=by cases g<;>rfl
theorem DT.chk_all{P:DS->Prop}(g:PX){t:DT}(h:t.All P):(DT.chk' g t).All P:=by cases g<;>exact h
theorem DT.bind_s{f:DS->DT}{h:DS->DS}:∀ {t:DT} {e:AExit} {st:DS},(t.bind f h).ok.den->(t.bind f h).lf=some (e,st) ->
 t.ok.den/\((∃ st0,t.lf=some (.normal,st0)/\(f st0).ok.den/\(f st0).lf=some (e,st))\/(e.isN=false/\∃ st0,t.lf=some (e,st0)/\st=h st0))
 | .leaf e0 st0,e,st,ho,hl=>by
   cases e0 with
   |normal=>exact⟨trivial,.inl ⟨st0,rfl,ho,hl⟩⟩
   | ret=>
     simp only[DT.bind,DT.lf,Ak,Am] at hl
     obtain⟨rfl,rfl⟩:=hl
     exact⟨trivial,.inr ⟨rfl,st0,rfl,rfl⟩⟩
   | exit i=>
     simp only[DT.bind,DT.lf,Ak,Am] at hl
     obtain⟨rfl,rfl⟩:=hl
     exact⟨trivial,.inr ⟨rfl,st0,rfl,rfl⟩⟩
 | .node c a b,e,st,ho,hl=>by
   have ho:=(PX.if_den c _ _).mp ho
   cases c with
   | true=>
     obtain⟨h1,h2⟩:=DT.bind_s (t:=a) (ho.1 rfl) hl
     exact⟨(PX.if_den _ _ _).mpr ⟨λ _=>h1,λ h=>by cases h⟩,h2⟩
   | false=>
     obtain⟨h1,h2⟩:=DT.bind_s (t:=b) (ho.2 rfl) hl
     exact⟨(PX.if_den _ _ _).mpr ⟨λ h=>(by cases h),λ _=>h1⟩,h2⟩
 | .chk g t,e,st,ho,hl=>by
   have ho:=(PX.land_den g _).mp ho
   obtain⟨h1,h2⟩:=DT.bind_s (t:=t) ho.2 hl
   exact⟨(PX.land_den _ _).mpr ⟨ho.1,h1⟩,h2⟩
 |.bad,e,st,ho,hl=>ho.elim
theorem DT.bind_all{P Q:DS->Prop}{f:DS->DT}{h:DS->DS}(hf:∀ st,P st->(f st).All Q)(hh:∀ st,P st->Q (h st)):∀ {t:DT},t.All P->(t.bind f h).All Q
 |.leaf e st,a=>by cases e<;>first|exact hf _ a|exact hh _ a
 |.node _ _ _,a=>⟨DT.bind_all hf hh a.1,DT.bind_all hf hh a.2⟩
 |.chk _ t,a=>DT.bind_all hf hh (t:=t) a
 |.bad,_=>trivial
theorem DT.then_s{b:DS}{f:DS->DT}{h:DS->DS}{t:DT}{e:AExit}{st:DS}(hb:t.All (ChgS b))(ho:(t.then f h).ok.den)(hl:(t.then f h).lf=some (e,st)) :
 t.ok.den/\((∃ st0 m,t.lf=some (.normal,st0)/\(∀ s,ES st0 s->ES m s)/\ChgS b m/\(f m).ok.den/\(f m).lf=some (e,st))\/(e.isN=false/\∃ st0,t.lf=some (e,st0)/\st=h st0)):=by
 have viaBind:(t.bind f h).ok.den->(t.bind f h).lf=some (e,st)->t.ok.den/\((∃ st0 m,t.lf=some (.normal,st0)/\(∀ s,ES st0 s->ES m s)/\ChgS b m/\(f m).ok.den/\(f m).lf=some (e,st))\/(e.isN=false/\∃ st0,t.lf=some (e,st0)/\st=h st0)):=λ ho hl=>by
  obtain⟨h1,h2⟩:=DT.bind_s ho hl;refine⟨h1,h2.imp ?_ id⟩;rintro⟨st0,h3,h4,h5⟩;exact⟨st0,st0,h3,λ _ h=>h,hb.lf h3,h4,h5⟩
 unfold DT.then at ho hl
 split at ho
 . rename_i hn
   rw[Ac hn] at hl;exact viaBind ho hl
 . rename_i hn
   rw[Af hn] at hl
   cases hm:t.norm with
   |none=>rw[hm] at ho hl;exact viaBind ho hl
   |fail=>rw[hm] at ho hl;exact viaBind ho hl
   | some m=>
     rw[hm] at ho hl;simp only[DT.chk_ok,DT.chk_lf] at ho hl;obtain⟨ho1,ho2⟩:=ho;refine⟨ho1,?_⟩;obtain⟨e0,st0,h0⟩:=DT.ok_lf ho1
     have nrm:e0.isN=true->(f m).ok.den->(f m).lf=some (e,st)->((∃ st0 m,t.lf=some (.normal,st0)/\(∀ s,ES st0 s->ES m s)/\ChgS b m/\(f m).ok.den/\(f m).lf=some (e,st))\/(e.isN=false/\∃ st0,t.lf=some (e,st0)/\st=h st0)):=λ he h1 h2=>by
      have he:e0= .normal:=by cases e0<;>first|rfl|cases he
      subst he;exact .inl ⟨st0,m,h0,λ s hs=>DT.norm_s hb hm h0 hs,DT.norm_chg hb hm,h1,h2⟩
     cases hc:t.cont with
     |none=>rw[hc] at ho2;exact ho2.elim
     | some c=>
       have hcs:=DT.cont_s hc h0
       cases c with
       | lit c=>
         cases c with
         |false=>rw[hc] at ho2;exact ho2.elim
         | true=>
           rw[hc] at ho2 hl;exact nrm hcs.symm ho2 hl
       | dyn c=>
         rw[hc] at ho2 hl;simp only[BX.b] at hcs;subst hcs;have ho2:=(PX.if_den _ _ _).mp ho2
         cases he:e0.isN with
         | true=>
           rw[he] at hl;exact nrm he (ho2.1 he) hl
         | false=>
           rw[he] at hl;simp only[DT.lf,DT.map_lf,DT.drop_lf h0 he,Cq,Ak,Am] at hl;obtain⟨rfl,rfl⟩:=hl;exact .inr ⟨he,st0,h0,rfl⟩
theorem DT.then_all{b:DS}{Q:DS->Prop}{f:DS->DT}{h:DS->DS}{t:DT}(hb:t.All (ChgS b))(hf:∀ st,ChgS b st->(f st).All Q)(hh:∀ st,ChgS b st->Q (h st)):(t.then f h).All Q:=by
 unfold DT.then;split
 . exact DT.bind_all hf hh hb
 . cases hm:t.norm with
   |none=>exact DT.bind_all hf hh hb
   |fail=>exact DT.bind_all hf hh hb
   | some m=>
     have h1:=hf m (DT.norm_chg hb hm);refine DT.chk_all _ ?_
     cases hc:t.cont with
     |none=>trivial
     | some c=>
       cases c with
       |lit c=>cases c<;>first|trivial|exact h1
       |dyn c=>exact⟨h1,DT.map_all hh (DT.drop_all hb)⟩
theorem xz(v:DV):v.enc.isAgg=v.isAgg:=by cases v<;>rfl
theorem wQ{v:DV}(h:v.flatc=true):v.enc.flatc=true/\∀ q es,v.enc≠.sl q es:=by cases v<;>first|(cases h;done)|exact⟨rfl,λ _ _ h=>(by cases h)⟩
theorem w7{s:PS}{hd:Hd}{c:Nat}{v:PV}{os as:List PV}(h:v.flatc=true)(hr:II s hd (c+1) os as):II s hd c (v::os) (v::as):=by
 cases v<;>first|exact⟨rfl,h,hr⟩|(cases h;done)
theorem M6{d:DS}{s:PS}(hs:ES d s){hd:Hd}:∀ (vs:List DV) (c:Nat) {g:PX} {os:List DV},FC d hd c vs=some (g,os)->g.den->II s hd c (DV.encL os) (DV.encL vs)
 | [],c,g,os,h,_=>by
   simp only[FC,Ak,Am] at h;rw[<- h.2];trivial
 | v :: vs,c,g,os,h,hg=>by
   have flat:v.flatc=true->(match FC d hd (c+1) vs with|some (g,os)=>some (g,v::os)|none=>none)=some (g,os)->II s hd c (DV.encL os) (DV.encL (v::vs)):=by
    intro hf h
    cases h1:FC d hd (c+1) vs with
    |none=>rw[h1] at h;cases h
    | some r=>
      obtain⟨g1,os1⟩:=r;rw[h1] at h;simp only[Ak,Am] at h;obtain⟨rfl,rfl⟩:=h;exact w7 (wQ hf).1 (M6 hs vs (c+1) h1 hg)
   have flat':(if v.flatc=true then (match FC d hd (c+1) vs with|some (g,os)=>some (g,v::os)|none=>none) else none)=some (g,os)->II s hd c (DV.encL os) (DV.encL (v::vs)):=by
    intro h;split at h
    . exact flat (by assumption) h
    . cases h
   cases v with
   | sl q r l=>
     simp only[FC] at h;split at h
     . rename_i hq
       have hq:q= .bor hd [c] true:=by simpa [Fb] using hq
       subst hq
       cases h1:FC d hd (c+1) vs with
       |none=>rw[h1] at h;split at h<;>simp_all
       | some r=>
         obtain⟨g1,os1⟩:=r;rw[h1] at h
         have hk:CH d hd [c]≠.any:=by intro e;rw[e] at h;cases h
         have ek:=Kz hs hd [c] hk;split at h
         . rename_i r' l' g2 os2 e1 e2;simp only[Ak,Am] at h e2;obtain⟨rfl,rfl⟩:=h;obtain⟨rfl,rfl⟩:=e2;have hg:=(PX.land_den _ _).mp hg;have hl:l.length=l'.length:=hg.1;refine⟨rfl,by rw[ek,e1];rfl,⟨_,rfl,?_⟩,M6 hs vs (c+1) h1 hg.2⟩;rw[A6,A6];exact hl
         . rename_i g2 os2 e1 e2;simp only[Ak,Am] at h e2;obtain⟨rfl,rfl⟩:=h;obtain⟨rfl,rfl⟩:=e2;have hg:=(PX.land_den _ _).mp hg;have hl:l.length=0:=hg.1;refine⟨rfl,by rw[ek,e1];rfl,⟨_,rfl,?_⟩,M6 hs vs (c+1) h1 hg.2⟩;rw[A6];exact hl
         . cases h
     . cases h
   | nil q=>
     simp only[FC] at h;split at h
     . rename_i hq
       have hq:q= .bor hd [c] true:=by simpa [Fb] using hq
       subst hq
       cases h1:FC d hd (c+1) vs with
       |none=>rw[h1] at h;split at h<;>simp_all
       | some r=>
         obtain⟨g1,os1⟩:=r;rw[h1] at h
         have hk:CH d hd [c]≠.any:=by intro e;rw[e] at h;cases h
         have ek:=Kz hs hd [c] hk;split at h
         . rename_i r' l' g2 os2 e1 e2;simp only[Ak,Am] at h e2;obtain⟨rfl,rfl⟩:=h;obtain⟨rfl,rfl⟩:=e2;have hg:=(PX.land_den _ _).mp hg;have hl:l'.length=0:=hg.1;refine⟨rfl,by rw[ek,e1];rfl,⟨_,rfl,?_⟩,M6 hs vs (c+1) h1 hg.2⟩;rw[A6];exact hl.symm
         . rename_i g2 os2 e1 e2;simp only[Ak,Am] at h e2;obtain⟨rfl,rfl⟩:=h;obtain⟨rfl,rfl⟩:=e2;exact⟨rfl,by rw[ek,e1];rfl,⟨_,rfl,rfl⟩,M6 hs vs (c+1) h1 hg⟩
         . cases h
     . cases h
   |_=>exact flat' h
def DV.flag:List DV->Prop
 |[]=>True
 |.sl q _ _::r=>q= .own/\DV.flag r
 |_::r=>DV.flag r
theorem bg:∀ (r:RT) (x:r.D),r.pl=true->DV.flag (r.dv .own x)
 |.one t,x,h=>by cases t<;>first|trivial|(cases h;done)|exact⟨rfl,trivial⟩
 | .cons t r,x,h=>by
   rw[RT.pl,Ah] at h
   obtain⟨h,h2⟩:=h
   cases t<;>first|(cases h;done)|exact⟨rfl,bg r x.2 h2⟩|exact bg r x.2 h2
theorem bL{hd:Hd}{D':DS}{K:PS->Prop}(hK:∀ s',ES D' s'->K s'):∀ (vs:List DV) (c:Nat) {d:DS} {s:PS},ES d s->IJ hd c vs d=some D'->DV.flag vs->Nv hd c (DV.encL vs) K s
 | [],c,d,s,hs,h,_=>by
   simp only[IJ,Ak] at h;subst h;exact hK _ hs
 | v :: vs,c,d,s,hs,h,hf=>by
   cases v with
   | sl q r l=>
     simp only[IJ] at h
     have hk:CH d hd [c]≠.any:=by intro e;rw[e] at h;cases h
     have ek:=Kz hs hd [c] hk
     have hn:IJ hd (c+1) vs (HI d (.sl q r l) hd [c])=some D'/\∃ es0,Dx s hd [c]= .sl .own es0:=by
      split at h
      . rename_i e1;exact⟨h,_,by rw[ek,e1];rfl⟩
      . rename_i e1;exact⟨h,_,by rw[ek,e1];rfl⟩
      . cases h
     obtain⟨rfl,hf⟩:=hf;exact⟨hn.2,bL hK vs (c+1) (OG hs hd [c] (.sl .own r l) hk) hn.1 hf⟩
   |nil q=>cases h
   |_=>exact bL hK vs (c+1) hs h hf
theorem aP:∀ (r:RT) (x y:r.D),r.pl=true->L8 (RT.enc r x) (RT.enc r y)
 |.one t,x,y,h=>by cases t<;>first|(cases h;done)|exact⟨⟨_,rfl⟩,trivial⟩|exact⟨λ _ _ h=>(by cases h),trivial⟩
 | .cons t r,x,y,h=>by
   rw[RT.pl,Ah] at h
   obtain⟨h,h2⟩:=h
   cases t<;>first|(cases h;done)|exact⟨⟨_,rfl⟩,aP r x.2 y.2 h2⟩|exact⟨λ _ _ h=>(by cases h),aP r x.2 y.2 h2⟩
theorem ju:∀ {vs:List DV} {c:Nat} {hd:Hd} {b:Nat},Xm c vs=some (hd,b)->hd.sb=true
 |[],_,_,_,h=>by cases h
 | v :: vs,c,hd,b,h=>by
   unfold Xm at h
   split at h
   . cases h
   . split at h
     . rename_i hc
       simp only[Ah] at hc
       simp only[Ak,Am] at h
       rw[<- h.1];exact hc.2
     . cases h
   . split at h
     . rename_i hc
       simp only[Ah] at hc
       simp only[Ak,Am] at h
       rw[<- h.1];exact hc.2
     . cases h
   . rename_i h1;cases h1;exact ju h
theorem Zag {d d1:DS}{s:PS}(hs:ES d s){M:DMk}{x y:Opnd}{g:PX}{v:DV}(h:Na M x y d=some (g,v,d1))(hg:g.den){dst:Option Nat}{k:PS->Prop}(hk:∀ s',ES d1 s'->k (s'.put dst v.enc)):cE M.P x y dst k s:=by
 unfold Na at h;split at h
 . rename_i m hm;split at h
   . rename_i hc;simp only[Ah] at hc;obtain⟨hc,hpl⟩:=hc;split at h
     . rename_i hd b hh;split at h
       . rename_i g1 os ho;split at h
         . rename_i z hz;split at h
           . rename_i st' hS;simp only[Ak,Am] at h;obtain⟨rfl,rfl,rfl⟩:=h;have hg:=(PX.land_den _ _).mp hg
             have hy:y.pev s.sl= .fl (.int .i64 m):=by
              have:=y.dev_ev hs;rw[hm] at this;exact this.of (by simp)
             have hx:x.pev s.sl=(x.dev d.sl).enc:=(x.dev_ev hs).of (by intro e;rw[e] at hc;cases hc.2);refine⟨m,hd,b,M.r.enc z,hy,?_,ju hh,?_,?_,⟨z,rfl,hg.2,aP _ _ _ hpl,?_⟩⟩
             . rw[hx,xz];exact eq_of_beq hc.1
             . rw[hx];exact im _ hc.2
             . rw[hx,Lu,<- Sx hz];exact M6 hs _ b ho hg.1
             . rw[<- bA];have hP:M.P.vd=M.vd:=rfl;refine bL (λ s' hs'=>?_) _ b hs hS (bg _ _ hpl);have h:=hk s' hs';rw[hP]
               cases hvd:M.vd with
               |true=>rw[hvd] at h;exact h
               |false=>rw[hvd] at h;exact h
           . cases h
         . cases h
       . cases h
     . cases h
   . cases h
 . cases h
theorem VR{hd:Hd}{D':DS}:∀ (vs:List DV) (c:Nat) {d:DS},IJ hd c vs d=some D'->ChgS d D'
 | [],c,d,h=>by
   simp only[IJ,Ak] at h
   subst h;exact ChgS.refl _
 | v :: vs,c,d,h=>by
   cases v with
   | sl q r l=>
     simp only[IJ] at h
     split at h
     . exact(ChgS.setK _ _ _ _).trans (VR vs _ h)
     . exact(ChgS.setK _ _ _ _).trans (VR vs _ h)
     . cases h
   |nil q=>cases h
   |_=>exact VR vs _ h
theorem xx{d d1:DS}{M:DMk}{x y:Opnd}{g:PX}{v:DV}(h:Na M x y d=some (g,v,d1)):ChgS d d1:=by
 unfold Na at h
 repeat' split at h
 all_goals first|(cases h;done)|skip
 all_goals
  simp only[Ak,Am] at h
  obtain⟨_,_,rfl⟩:=h
  exact VR _ _ (by assumption)
theorem ZaH{v:DV}{r:Hd×Nat}(h:v.hld=some r):v≠.any/\v.enc.hld=some r:=by
 cases v<;>first|(cases h;done)|exact⟨by simp,h⟩
theorem yG{a:DV}{n:Nat}{d d1:DS}{s:PS}{g:PX}{v:DV}(hs:ES d s)(h:M1 a n d=some (g,v,d1))(hg:g.den):∃ s1,W7 a.enc n s=some s1/\ES d1 s1:=by
 unfold M1 at h;split at h
 . rename_i i o;obtain⟨s1,e1,e2⟩:=YZ (p:=.box i o) hs (.inr rfl) h;refine⟨s1,?_,e2⟩;show (Jm true i (some n) (.box i o) s).map (·.2)=some s1;rw[e1];rfl
 . rename_i i o;obtain⟨s1,e1,e2⟩:=Y8 (p:=.ptr i o) hs (.inr rfl) h hg;refine⟨s1,?_,e2⟩;show (Iq true (some n) (.ptr i o) s).map (·.2)=some s1;rw[e1];rfl
 . cases h
theorem wz{a:DV}{n:Nat}{d d1:DS}{g:PX}{v:DV}(h:M1 a n d=some (g,v,d1)):ChgS d d1:=by
 unfold M1 at h;split at h
 . exact Zr h
 . exact Zj h
 . cases h
theorem Zbc{a:Opnd}{t:Nat}{d d1:DS}{s:PS}{g:PX}(hs:ES d s)(h:Nj a t d=some (g,d1))(hg:g.den){K:PS->Prop}(hk:∀ s',ES d1 s'->K s'):da a t K s:=by
 unfold Nj at h;split at h
 . rename_i hd b cs e1 e2;have ht:=hs.sl.get t;rw[e2] at ht;have ht:=ht.of (by simp);have ha:=a.dev_ev hs;obtain⟨hk1,hk2⟩:=ZaH e1;have ha:=ha.of hk1
   cases e3:FC d hd b cs with
   |none=>rw[e3] at h;cases h
   | some r=>
     obtain⟨g1,os⟩:=r;rw[e3] at h;simp only at h
     cases e4:M1 (a.dev d.sl) os.length d with
     |none=>rw[e4] at h;cases h
     | some r=>
       obtain⟨g2,w,d2⟩:=r;rw[e4] at h;simp only[Ak,Am] at h;obtain⟨rfl,rfl⟩:=h;have hg:=(PX.land_den _ _).mp hg;obtain⟨s1,k1,k2⟩:=yG hs e4 hg.2;refine⟨hd,b,DV.encL os,s1,by rw[ha];exact hk2,by rw[ht];rfl,?_,?_,hk _ (k2.put (some t) (.agg os))⟩
       . rw[ht];exact M6 hs cs b e3 hg.1
       . rw[ha,ET];exact k1
 . cases h
theorem za{a:Opnd}{t:Nat}{d d1:DS}{g:PX}(h:Nj a t d=some (g,d1)):ChgS d d1:=by
 unfold Nj at h;split at h
 . rename_i hd b cs e1 e2
   cases e3:FC d hd b cs with
   |none=>rw[e3] at h;cases h
   | some r=>
     obtain⟨g1,os⟩:=r;rw[e3] at h;simp only at h
     cases e4:M1 (a.dev d.sl) os.length d with
     |none=>rw[e4] at h;cases h
     | some r=>
       obtain⟨g2,w,d2⟩:=r;rw[e4] at h;simp only[Ak,Am] at h;obtain⟨_,rfl⟩:=h;exact(wz e4).trans (ChgS.put _ _ _)
 . cases h
theorem ZaS{c:DC}{p:PV}(h:EV c.v p):EV (mO c).v p.fz:=by
 obtain⟨d,v⟩:=c;rcases h with h|h
 . simp only at h;subst h;exact .inl rfl
 . simp only at h;subst h;have gen:(⟨true,v.fz⟩:DC).v.enc=v.enc.fz:=WS v;right
   cases v with
   |sl q r l=>cases q<;>rfl
   |nil q=>cases q<;>rfl
   |any=>rfl
   |undef=>rfl
   |int _ _=>rfl
   |bool _=>rfl
   |str _=>rfl
   |ifc _=>rfl
   |_=>exact gen.symm
theorem lz:∀ {a:List DC} {b:List PV},EL a b->EL (PM a) (PV.fzL b)
 |[],[],_=>trivial
 |_::_,_::_,h=>⟨ZaS h.1,lz h.2⟩
 |[],_::_,h=>h.elim
 |_::_,[],h=>h.elim
theorem lR{a:List DC}{b:List PV}(h:EBx a b):EBx (PM a) (PV.fzL b):=by
 rcases h with h|h
 . left;rw[h];rfl
 . exact .inr (lz h)
theorem aE:∀ (x:List DC),Chg x (PM x)
 |[]=>trivial
 | c::r=>by
   refine⟨?_,aE r⟩
   obtain⟨d,v⟩:=c
   cases v with
   |sl q r l=>cases q<;>first|exact .inr rfl|exact .inl rfl
   |nil q=>cases q<;>first|exact .inr rfl|exact .inl rfl
   |_=>first|exact .inr rfl|exact .inl rfl
theorem Zbk{a:DV}{p:PV}{d d1:DS}{s:PS}(hs:ES d s)(ha:EV a p)(h:Nt a d=some d1):∃ s1,SD p s=some s1/\ES d1 s1:=by
 unfold Nt at h;split at h
 . rename_i i o;rw[ha.of (by simp)];simp only[Ak] at h;subst h;exact⟨_,rfl,hs.sl.clr _,hs.bx.put i (lR (hs.bx.get i)),hs.hp⟩
 . rename_i i o;rw[ha.of (by simp)];simp only[Ak] at h;subst h;exact⟨_,rfl,hs.sl.clr _,hs.bx,hs.hp.put i (lR (hs.hp.get i))⟩
 . cases h
theorem yD{a:DV}{d d1:DS}(h:Nt a d=some d1):ChgS d d1:=by
 unfold Nt at h;split at h
 . simp only[Ak] at h;subst h;exact⟨Chg.clr _ _,ChgB.put _ _ (aE _),ChgB.refl _⟩
 . simp only[Ak] at h;subst h;exact⟨Chg.clr _ _,ChgB.refl _,ChgB.put _ _ (aE _)⟩
 . cases h
def WJ(p:Cf)(D:Mf):Prop:=∀ (args:List DV) (g:PX) (v:DV) (Q:PV->List (List PV)->Prop),D args=some (g,v)->g.den->(∀ H,Q v.enc H)->p (DV.encL args) [] Q
def D2(p:Cf)(D:CO):Prop:=∀ (args:List DV) (b:List (List DV)) (g:PX) (v:DV) (H:List (List DV)) (Q:PV->List (List PV)->Prop),D args b=some (g,v,H)->g.den->Q v.enc (Gw (IF b H))->p (DV.encL args) (Gw b) Q
inductive ObD where
 |nv (p:Cf) (D:Mf)
 |wp (p:Cf) (D:CO)
def ObD.sound:ObD->Prop
 |.nv p D=>WJ p D
 |.wp p D=>D2 p D
def DOp.obs:DOp->List ObD
 |.a _ _ _=>[]
 |.aw _ _ _ _=>[]
 |.call _ _ p D _=>[.nv p D]
 |.mark _ _ _ _=>[]
 |.callp _ _ p D _=>[.wp p D]
 |.callv _ _ p D _ _ _=>[.wp p D]
 |.fz _=>[]
 |.clm _ _ _=>[]
 |.fzb _ _=>[]
def Wf:List DOper->List ObD
 |[]=>[]
 |o::r=>o.op.obs++Wf r
def DCode.obs:DCode->List ObD
 |.skip=>[]
 |.region ops=>Wf ops
 |.regionU ops=>Wf ops
 |.seq _ a b=>a.obs++b.obs
 |.cond _ a b=>a.obs++b.obs
 |.block _ a=>a.obs
 |.scope a=>a.obs
 |.loop _ _ a=>a.obs
 |.exit _=>[]
 |.ret=>[]
def AllD:List ObD->Prop
 |[]=>True
 |o::r=>o.sound/\AllD r
theorem AllD.app:∀ {a b:List ObD},AllD (a++b)->AllD a/\AllD b
 |[],_,h=>⟨trivial,h⟩
 |_::_,_,⟨h1,h2⟩=>⟨⟨h1,(AllD.app h2).1⟩,(AllD.app h2).2⟩
theorem WE{d:DS}{s:PS}(hs:ES d s):∀ (args:List Opnd),Ih (FF d.sl args)=true->args.map (·.pev s.sl)=DV.encL (FF d.sl args)
 |[],_=>rfl
 | x::r,h=>by
   simp only[FF,Ih,Ah] at h
   simp only[Cr,FF,DV.encL,WE hs r h.2]
   rw[(x.dev_ev hs).of (by intro e;rw[e] at h;cases h.1)]
theorem OE:∀ (l:List PV),l.any PV.hasPtr=PV.hasPtrL l
 |[]=>rfl
 |v::r=>by simp only[List.any_cons,PV.hasPtrL,OE r]
theorem WY:∀ (l:List PV),l.map PV.fz=PV.fzL l
 |[]=>rfl
 |v::r=>by simp only[Cr,PV.fzL,WY r]
theorem Z8:∀ (l:List PV),(l.all λ v=>!v.hold)=!PV.holdL l
 |[]=>rfl
 |v::r=>by simp only[Gp,PV.holdL,Z8 r,Bool.not_or]
mutual
theorem jN:∀ (v:DV),v.deep=true->v.enc.deep=true
 |.undef,_|.bool _,_|.int _ _,_|.str _,_|.ifc _,_|.ptr _ _,_=>rfl
 |.nil q,h=>by cases q<;>first|rfl|cases h
 | .sl q r l,h=>by
   rw[DV.deep,Ah] at h
   obtain⟨h,h2⟩:=h
   cases q<;>first|(cases h;done)|exact ZY r l h2
 |.agg cs,h=>ZK cs h
 |.tup cs,h=>ZK cs h
theorem ZK:∀ (l:List DV),DV.deepL l=true->PV.deepL (DV.encL l)=true
 |[],_=>rfl
 | v::r,h=>by
   simp only[DV.deepL,Ah] at h
   simp only[DV.encL,PV.deepL,jN v h.1,ZK r h.2,Dn]
end
theorem aO(v:DV):v.enc.retc=v.retc:=by
 cases v<;>first|rfl|skip
 case nil q=>cases q<;>rfl
 case sl q r l=>cases q<;>rfl
theorem kR:∀ (l:List DV),FA (DV.encL l)=JB l
 |[]=>rfl
 |v::r=>by simp only[DV.encL,FA,JB,aO v,kR r]
theorem zo(v:DV):v.enc.retok=v.retok:=by
 cases v<;>first|rfl|skip
 case nil q=>exact aO (.nil q)
 case sl q r l=>exact aO (.sl q r l)
 case agg cs=>exact kR cs
theorem zn{d:DS}{s:PS}(x:Opnd)(h:ES d s)(hk:∀ n,x= .t n->Bq d.sl n≠.any):ES (Fs x d).2 (fzOut x s).2:=by
 cases x with
 |c v=>exact h
 | t n=>
   simp only[Fs,SI,fzOut,XE];have hg:=(h.sl.get n).of (hk n rfl);rw[hg,Jo,zo];by_cases ho:(Bq d.sl n).own=true
   . simp only[ho,AO];by_cases hr:(Bq d.sl n).retok=true
     . rw[Ac hr,Ac hr,<- WS];exact⟨(h.sl.put n (.inr rfl)).clr _,h.bx,h.hp⟩
     . rw[Af hr,Af hr];exact h
   . simp only[ho];exact h
theorem fO(v:DV):∀ (l:List DC) (k n:Nat),Bq l n= .any->k≠n->Bq (DX l k v) n= .any
 |[],_,_,_,_=>rfl
 |_::_,0,0,_,hn=>absurd rfl hn
 |_::_,0,_+1,h,_=>h
 |_::_,_+1,0,h,_=>h
 |_::r,k+1,n+1,h,hn=>fO v r k n h (by simpa using hn)
theorem fP(hd:Hd):∀ (l:List DC) (n:Nat),Bq l n= .any->Bq (Dw hd l) n= .any
 |[],_,_=>rfl
 | c::_,0,h=>by
   have h:c.v= .any:=h
   simp only[Dw,h,DV.bor,AK,AS,Bq]
 |_::r,n+1,h=>fP hd r n h
theorem vr(x:Opnd)(d:DS)(n:Nat)(h:Bq d.sl n= .any):Bq (Fs x d).2.sl n= .any:=by
 cases x with
 |c v=>exact h
 | t k=>
   simp only[Fs,SI];split
   . rename_i ho;split
     . refine fP _ _ _ (fO _ _ _ _ h ?_);rintro rfl;rw[h] at ho;cases ho
     . exact h
   . exact h
theorem fK:∀ (args:List Opnd) (d:DS) (n:Nat),Bq d.sl n= .any->Bq (EX args d).sl n= .any
 |[],_,_,h=>h
 |x::r,d,n,h=>fK r _ n (vr x d n h)
theorem V3:∀ (args:List Opnd) {d:DS} {s:PS},ES d s->(∀ x∈args,x.dev (EX args d).sl≠.any)->ES (EX args d) (fzArgs args s)
 |[],_,_,h,_=>h
 | x::r,d,s,h,hk=>by
   refine V3 r (zn x h λ n hx hn=>?_) λ y hy=>hk y (List.mem_cons_of_mem _ hy)
   subst hx
   exact hk (.t n) (GX ..) (fK (.t n::r) d n hn)
theorem Vs{sl:List DC}:∀ {args:List Opnd},Ih (FF sl args)=true->∀ x∈args,x.dev sl≠.any
 |[],_,_,hx=>by cases hx
 | a::r,h,x,hx=>by
   simp only[FF,Ih,Ah] at h
   rcases Cv.mp hx with rfl|hx
   . intro e;rw[e] at h;cases h.1
   . exact Vs h.2 x hx
theorem DS.fzArgs_chg:∀ (args:List Opnd) (d:DS),ChgS d (EX args d)
 |[],d=>ChgS.refl d
 |x::r,d=>(ChgS.fzOut x d).trans (DS.fzArgs_chg r _)
section
variable {E:AExit} {D':DS}
def SF(E:AExit)(D':DS)(K:DS->DT)(k:PS->Prop):Prop:=∀ d s,ES d s->(K d).ok.den->(K d).lf=some (E,D')->k s
theorem Zaj{A B:Type}(e:A=B)(h:List A=List B)(x:A)(l:List A):h.mp (x::l)=e.mp x::h.mp l:=by subst e;rfl
theorem Za2{A B:Type}(e:A=B)(h:List A=List B):h.mp []=[]:=by subst e;rfl
theorem ZaB{A A' B B':Type}(e1:A=A')(e2:B=B')(h:(A×B)=(A'×B'))(x:A×B):h.mp x=(e1.mp x.1,e2.mp x.2):=by subst e1;subst e2;rfl
mutual
theorem kT:∀ (t:CT) (x:t.D),CT.enc t.nrm ((CT.D_nrm t).symm.mp x)=(CT.enc t x).ownr
 |.int _,_|.bool,_|.str,_|.ifc,_=>rfl
 | .sl r,l=>by
   show PV.sl .own _=PV.sl .own _
   rw[<- Wl r l];rfl
 | .slf r,l=>by
   show PV.sl .own _=PV.sl .own _
   rw[<- Wl r l];rfl
theorem lH:∀ (r:RT) (x:r.D),RT.enc r.nrm ((RT.D_nrm r).symm.mp x)=PV.ownrL (RT.enc r x)
 | .one t,x=>by
   show [CT.enc t.nrm ((CT.D_nrm t).symm.mp x)]=[(CT.enc t x).ownr]
   rw[kT t x]
 | .cons t r,x=>by
   have e:=ZaB (CT.D_nrm t).symm (RT.D_nrm r).symm (RT.D_nrm (.cons t r)).symm x
   show RT.enc (.cons t.nrm r.nrm) ((RT.D_nrm (.cons t r)).symm.mp x)=(CT.enc t x.1).ownr::PV.ownrL (RT.enc r x.2)
   rw[<- kT t x.1,<- lH r x.2]
   show CT.enc t.nrm ((RT.D_nrm (.cons t r)).symm.mp x).1::RT.enc r.nrm ((RT.D_nrm (.cons t r)).symm.mp x).2=_
   rw[show ((RT.D_nrm (.cons t r)).symm.mp x)=_ from e]
theorem Wl:∀ (r:RT) (l:List r.D),(Xu r l).map (RT.enc r.nrm)=PV.ownrE (l.map (RT.enc r))
 | r,[]=>by
   unfold Xu
   rw[Za2 (RT.D_nrm r).symm];rfl
 | r,x::l=>by
   have i:=Wl r l
   unfold Xu at i ⊢
   rw[Zaj (RT.D_nrm r).symm,Cr,Cr,i,lH r x];rfl
end
mutual
theorem mB:∀ (t:CT) (x:t.D),t.pl=true->(CT.enc t x).ownr=CT.enc t x
 |.int _,_,_|.bool,_,_|.str,_,_|.ifc,_,_=>rfl
 | .sl r,l,h=>by
   show PV.sl .own _=PV.sl .own _
   rw[bZ r l h]
 |.slf _,_,h=>by cases h
theorem mF:∀ (r:RT) (x:r.D),r.pl=true->PV.ownrL (RT.enc r x)=RT.enc r x
 | .one t,x,h=>by
   show [(CT.enc t x).ownr]=[CT.enc t x]
   rw[mB t x h]
 | .cons t r,x,h=>by
   rw[RT.pl,Ah] at h
   show (CT.enc t x.1).ownr::PV.ownrL (RT.enc r x.2)=CT.enc t x.1::RT.enc r x.2
   rw[mB t x.1 h.1,mF r x.2 h.2]
theorem bZ:∀ (r:RT) (l:List r.D),r.pl=true->PV.ownrE (l.map (RT.enc r))=l.map (RT.enc r)
 |_,[],_=>rfl
 |r,x::l,h=>by rw[Cr,PV.ownrE,mF r x h,bZ r l h]
end
theorem jU(v:DV):v.nrm1.enc=v.enc.nrm1:=by
 cases v with
 | sl q r l=>
   cases q with
   | frz=>
     show (DV.nrm1 (.sl .frz r l)).enc=PV.sl .frz _;rw[DV.nrm1];split
     . rename_i h;show PV.sl .frz _=PV.sl .frz _;rw[bZ r l h]
     . show PV.sl .frz _=PV.sl .frz _;rw[Wl r l]
   |_=>rfl
 |nil q=>cases q<;>rfl
 |_=>rfl
theorem iX:∀ l:List DV,DV.encL (DV.nrmA l)=PV.nrmA (DV.encL l)
 |[]=>rfl
 |v::r=>by simp only[DV.nrmA,DV.encL,PV.nrmA,jU v,iX r]
theorem jZ(v:DV):v.nrm.enc=v.enc.nrm:=by
 cases v with
 | agg cs=>
   show PV.agg _=PV.agg _;rw[iX]
 |sl q r l=>exact jU _
 |nil q=>cases q<;>rfl
 |_=>rfl
theorem V2:∀ l:List DV,DV.encL (DV.nrmV l)=(DV.encL l).map PV.nrm
 |[]=>rfl
 |v::r=>by simp only[DV.nrmV,DV.encL,Cr,jZ v,V2 r]
theorem Zar{D:Mf}{p:Cf}(hp:WJ p D){args:List Opnd}{d d1:DS}{s:PS}{g:PX}{v:DV}{dst:Option Nat}{k:PS->Prop}(hs:ES d s)(h:Nb D args d=some (g,v,d1))(hg:g.den)(hk:∀ s',ES (d1.put dst v) s'->k s'):bX p args dst k s:=by
 unfold Nb at h;simp only at h;split at h
 . rename_i hc;simp only[Ah,BA] at hc;obtain⟨h1,h2⟩:=hc;split at h
   . rename_i g1 v1 hD;split at h
     . rename_i hr;simp only[Ah,BA,Cm] at hr;obtain⟨⟨hok,hnp⟩,hdp⟩:=hr;simp only[Ak,Am] at h;obtain⟨rfl,rfl,rfl⟩:=h;have e:=WE hs args h1;refine⟨by rw[e,OE,Lo,h2],by rw[e];exact VA _ h1,?_⟩;rw[e,OE,Lo,h2];simp only[AK,AS];rw[WY,<- Pa,<- V2]
       refine hp _ _ _ _ hD hg λ H=>⟨?_,?_⟩
       . rw[Vv,hnp,Z8,Q9];rcases hdp with h|h
         . simp[jN _ h]
         . simp[h]
       . rw[Vv,hnp];simp only[AK,AS];exact hk _ (hs.put dst v1)
     . cases h
   . cases h
 . cases h
theorem jc{D:Mf}{args:List Opnd}{d d1:DS}{g:PX}{v:DV}(h:Nb D args d=some (g,v,d1)):d1=d/\Ih (FF d.sl args)=true:=by
 unfold Nb at h;simp only at h;split at h
 . rename_i hc;simp only[Ah] at hc;split at h
   . split at h
     . simp only[Ak,Am] at h;exact⟨h.2.2.symm,hc.1⟩
     . cases h
   . cases h
 . cases h
theorem db(q:Ql):∀ es,(PV.sl q es).isH=q.isH'/\∀ j o,(PV.ep q es j o).isH=q.isH':=by
 intro es
 cases q with
 |bor hd p t=>cases hd<;>exact⟨rfl,λ _ _=>rfl⟩
 |pre hd p=>cases hd<;>exact⟨rfl,λ _ _=>rfl⟩
 |_=>exact⟨rfl,λ _ _=>rfl⟩
mutual
theorem aR:∀ (v:DV),v.enc.isH=v.isH
 |.nil q=>(db q []).1
 |.sl q r l=>(db q _).1
 |.ep q r l j o=>(db q _).2 j o
 |.agg cs=>aG cs
 |.tup vs=>aG vs
 |.any|.undef|.bool _|.int _ _|.str _|.ifc _|.box _ _|.ptr _ _=>rfl
theorem aG:∀ (l:List DV),PV.isHL (DV.encL l)=DV.isHL l
 |[]=>rfl
 |v::r=>by simp only[DV.encL,PV.isHL,DV.isHL,aR v,aG r]
end
theorem EL.clrH:∀ {a:List DC} {b:List PV},EL a b->EL (Sy a) (Go.Ag.clrH b)
 |[],[],_=>trivial
 | c :: a,p::b,h=>by
   refine⟨?_,EL.clrH h.2⟩
   by_cases hc:c.v.isH=true
   . rw[Ac hc];exact .inl rfl
   . rw[Af hc]
     rcases h.1 with h1|h1
     . exact .inl h1
     . rw[h1,aR,Af hc];exact .inr rfl
theorem EL.all:∀ {a:List DC} {b:List PV},EL a b->DV.okL (BO a)=true->b=DV.encL (BO a)
 |[],[],_,_=>rfl
 | c::a,p::b,h,hk=>by
   simp only[BO,DV.okL,Ah] at hk
   rcases h.1 with h1|h1
   . rw[h1] at hk;cases hk.1
   . simp only[BO,DV.encL];rw[h1,EL.all h.2 hk.2]
theorem EB.all:∀ {a:List (List DC)} {b:List (List PV)},EB a b->XD (HB a)=true->b=Gw (HB a)
 |[],[],_,_=>rfl
 | c::a,p::b,h,hk=>by
   simp only[HB,XD,Ah] at hk
   have hl:0<c.length:=by rw[<- Ro];exact Dc hk.1.1
   simp only[HB,Gw];rw[(h.1.to hl).all hk.1.2,EB.all h.2 hk.2]
theorem EL.mix:∀ (a:List DC) (vs:List DV),EL (Np a vs) (DV.encL (D8 (BO a) vs))
 |[],vs=>by simp only[Np,BO,D8];exact EL.news vs
 | c :: a,[]=>by
   have:∀ (a:List DC),EL a (DV.encL (BO a)):=by
    intro a
    induction a with
    |nil=>exact trivial
    |cons x r ih=>exact⟨.inr rfl,ih⟩
   exact this (c::a)
 | c::a,v::vs=>by
   simp only[Np,BO,D8];refine⟨?_,EL.mix a vs⟩;by_cases h:v.isAny=true
   . rw[Ac h,Ac h];exact .inr rfl
   . rw[Af h,Af h];exact .inr rfl
theorem EB.newsB:∀ (vs:List (List DV)),EB (Go.Ag.newsB vs) (Gw vs)
 |[]=>trivial
 |v::r=>⟨.inr (EL.news v),EB.newsB r⟩
theorem EB.mix:∀ (a:List (List DC)) (vs:List (List DV)),EB (Ni a vs) (Gw (IF (HB a) vs))
 |[],vs=>by simp only[Ni,HB,IF];exact EB.newsB vs
 | c :: a,[]=>by
   have h0:∀ (a:List DC),Np a []=a:=by intro a;cases a<;>rfl
   have h1:∀ (a:List DC),D8 (BO a) []=BO a:=by intro a;cases a<;>rfl
   have:∀ (a:List (List DC)),EB a (Gw (HB a)):=by
    intro a
    induction a with
    |nil=>exact trivial
    | cons x r ih=>
      refine⟨.inr ?_,ih⟩;have:=EL.mix x [];rw[h0,h1] at this;exact this
   exact this (c::a)
 | c::a,v::vs=>by
   simp only[Ni,HB,IF];exact⟨.inr (EL.mix c v),EB.mix a vs⟩
theorem ZH:∀ (a:List (List DV)),(Gw a).length=a.length
 |[]=>rfl
 |_::r=>by simp only[Gw,AH,ZH r]
theorem iD:∀ (a vs:List (List DV)),a.length<=(IF a vs).length
 |[],_=>Gt _
 |_::_,[]=>BN _
 |_::a,_::vs=>by simp only[IF,AH];exact Nat.succ_le_succ (iD a vs)
theorem iV{D:CO}{p:Cf}(hp:D2 p D){args:List Opnd}{d d1:DS}{s:PS}{g:PX}{v:DV}{dst:Option Nat}{k:PS->Prop}(hs:ES d s)(h:KG D args d=some (g,v,d1))(hg:g.den)(hk:∀ s',ES (d1.put dst v) s'->k s'):Sg p args dst k s:=by
 unfold KG at h;simp only at h;split at h
 . rename_i hc;simp only[Ah,BA] at hc;obtain⟨⟨h1,h2⟩,h3⟩:=hc;have e:=WE hs args h1;have eh:=hs.hp.all h3
   have hun:((DV.encL (FF d.sl args)).all λ v=>!v.hold)=true:=by rw[Z8,Q9,h2];rfl
   split at h
   . rename_i hpt;split at h
     . rename_i g1 v1 H hD;split at h
       . rename_i hr;simp only[Ah,BA] at hr;simp only[Ak,Am] at h;obtain⟨rfl,rfl,rfl⟩:=h;refine⟨by rw[e];exact VA _ h1,?_⟩;rw[e,OE,Lo,hpt];simp only[AO];refine⟨hun,?_⟩;rw[WY,<- Pa,<- V2,eh];have hE:ES { d with sl:=Sy d.sl,hp:=Ni d.hp H } { s with sl:=Go.Ag.clrH s.sl,hp:=Gw (IF (HB d.hp) H) }:=⟨hs.sl.clrH,hs.bx,EB.mix d.hp H⟩;refine hp _ _ _ _ _ _ hD hg ⟨?_,by rw[Vv];exact hr.2,hk _ (hE.put dst v1)⟩;rw[ZH,ZH];exact iD _ _
       . cases h
     . cases h
   . rename_i hpt;split at h
     . rename_i hl;have hl:d.hp=[]:=EH (by simpa using hl);split at h
       . rename_i g1 v1 H hD;split at h
         . rename_i hr;simp only[Ak,Am] at h;obtain⟨rfl,rfl,rfl⟩:=h
           have hv:v1= .ptr 0 0:=by
            unfold DV.isP0 at hr;split at hr
            . rfl
            . cases hr
           subst hv
           have hsl:s.hp=[]:=by rw[eh,hl];rfl
           refine⟨by rw[e];exact VA _ h1,?_⟩;rw[e,OE,Lo];rw[Af (by simpa using hpt)];rw[WY,<- Pa,<- V2]
           have:=hp _ [] _ _ _ (λ r H=>(((!r.hasPtr&&r.deep)||(DV.encL (FF d.sl args)).all λ v=>!v.hold)=true)/\k (PS.put { s with hp:=if r.hasPtr then s.hp++H else s.hp } dst (if r.hasPtr then r.shift s.hp.length else r))) hD hg ⟨by rw[hun];simp,by
            have hE:ES { d with hp:=newsB H } { s with hp:=Gw H }:=⟨hs.sl,hs.bx,EB.newsB H⟩;have:=hk _ (hE.put dst (.ptr 0 0))
            simpa [hsl,DV.enc,PV.hasPtr,PV.shift,IF] using this⟩
           exact this
         . cases h
       . cases h
     . cases h
 . cases h
theorem jC{i c:Nat}{D:CO}{args:List Opnd}{d d1:DS}{g:PX}{v:DV}(h:RQ i c D args d=some (g,v,d1)) :
 DV.hasPtrL (FF d.sl args)=true/\(CH d (.b i) [c]).ownS=true/\KG D args d=some (g,v,d1):=by
 unfold RQ at h
 by_cases hc:(DV.hasPtrL (FF d.sl args)&&(CH d (.b i) [c]).ownS)=true
 . rw[Ac hc] at h
   rw[Ah] at hc;exact⟨hc.1,hc.2,h⟩
 . rw[Af hc] at h;cases h
theorem VJ{D:CO}{args:List Opnd}{d d1:DS}{g:PX}{v:DV}(h:KG D args d=some (g,v,d1)):ChgS d d1/\Ih (FF d.sl args)=true:=by
 have cH:∀ (l:List DC),Chg l (Sy l):=by
  intro l
  induction l with
  |nil=>trivial
  | cons c r ih=>
    refine⟨?_,ih⟩;by_cases hc:c.v.isH=true
    . rw[Ac hc];exact .inl rfl
    . rw[Af hc];exact .inr rfl
 have cN:∀ (x:List DC) (vs:List DV),Chg x (news vs):=by
  intro x vs
  induction vs generalizing x with
  |nil=>cases x<;>trivial
  | cons v r ih=>cases x with
    |nil=>exact⟨rfl,ih []⟩
    |cons c x=>exact⟨.inl rfl,ih x⟩
 have cM:∀ (a:List DC) (vs:List DV),Chg a (Np a vs):=by
  intro a
  induction a with
  |nil=>intro vs;exact cN [] vs
  | cons c r ih=>
    intro vs
    cases vs with
    |nil=>exact Chg.refl _
    | cons v vs=>
      refine⟨?_,ih vs⟩;by_cases h:v.isAny=true
      . rw[Ac h];exact .inr rfl
      . rw[Af h];exact .inl rfl
 have cNB:∀ (x:List (List DC)) (vs:List (List DV)),ChgB x (newsB vs):=by
  intro x vs
  induction vs generalizing x with
  |nil=>cases x<;>trivial
  | cons v r ih=>cases x with
    |nil=>exact⟨cN _ _,ih []⟩
    |cons c x=>exact⟨cN _ _,ih x⟩
 have cMB:∀ (a:List (List DC)) (vs:List (List DV)),ChgB a (Ni a vs):=by
  intro a
  induction a with
  |nil=>intro vs;exact cNB [] vs
  | cons c r ih=>
    intro vs
    cases vs with
    |nil=>exact ChgB.refl _
    |cons v vs=>exact⟨cM c v,ih vs⟩
 unfold KG at h;simp only at h;split at h
 . rename_i hc;simp only[Ah] at hc;refine⟨?_,hc.1.1⟩;split at h
   . split at h
     . split at h
       . simp only[Ak,Am] at h;obtain⟨_,_,rfl⟩:=h;exact⟨cH _,ChgB.refl _,cMB _ _⟩
       . cases h
     . cases h
   . split at h
     . split at h
       . split at h
         . simp only[Ak,Am] at h;obtain⟨_,_,rfl⟩:=h;exact⟨Chg.refl _,ChgB.refl _,cNB _ _⟩
         . cases h
       . cases h
     . cases h
 . cases h
theorem kc{d:DS}{s:PS}(x:Opnd)(hs:ES d s)(hk:x.dev d.sl≠.any)(ho:(x.dev d.sl).own=false):mvOut x s=((x.dev d.sl).enc,s):=by
 cases x with
 |c v=>simp only[mvOut,Opnd.dev];rw[Rc v hk]
 | t n=>
   have:=(hs.sl.get n).of hk;simp only[mvOut,He,this,Jo,Opnd.dev] at ho ⊢;rw[Af (by simp[ho])]
theorem WU{o:DOp}(ho:AllD o.obs){dst:Option Nat}{K:DS->DT}{k:PS->Prop}(hK:SF E D' K k):SF E D' (Cx o dst K) (λ s=>CZ o.er dst k s):=by
 intro d s hs hok hl
 cases o with
 | call m f p D args=>
   simp only[Cx] at hok hl;simp only[DOp.er,CZ]
   cases hc:Nb D args (if m=true then EX args d else d) with
   |none=>rw[hc] at hok;exact hok.elim
   | some r=>
     obtain⟨g,v,d1⟩:=r;rw[hc] at hok hl;simp only[DT.chk_ok,DT.chk_lf] at hok hl;obtain⟨e1,e2⟩:=jc hc
     have hs':ES (if m=true then EX args d else d) (if m=true then fzArgs args s else s):=by
      cases m with
      |false=>exact hs
      |true=>exact V3 args hs (Vs e2)
     exact Zar ho.1 hs' hc hok.1 λ s' hs'=>hK _ _ hs' hok.2 hl
 | aw ws m o ty=>
   simp only[Cx] at hok hl;simp only[DOp.er,CZ]
   cases hst:MZ ws m o ty d with
   |none=>rw[hst] at hok;exact hok.elim
   | some r=>
     obtain⟨g,v,d1⟩:=r;rw[hst] at hok hl;simp only[DT.chk_ok,DT.chk_lf] at hok hl;obtain⟨s',v0,e1,e2,e3⟩:=uA hs hst hok.1;simp only[e1,e2];exact hK _ _ (e3.put dst v) hok.2 hl
 | mark f M x y=>
   simp only[Cx] at hok hl;simp only[DOp.er,CZ]
   cases hst:Na M x y d with
   |none=>rw[hst] at hok;exact hok.elim
   | some r=>
     obtain⟨g,v,d1⟩:=r;rw[hst] at hok hl;simp only[DT.chk_ok,DT.chk_lf] at hok hl
     exact Zag hs hst hok.1 λ s' hs'=>hK _ _ (hs'.put dst v) hok.2 hl
 | callp m f p D args=>
   simp only[Cx] at hok hl;simp only[DOp.er,CZ]
   cases hc:KG D args (if m=true then EX args d else d) with
   |none=>rw[hc] at hok;exact hok.elim
   | some r=>
     obtain⟨g,v,d1⟩:=r;rw[hc] at hok hl;simp only[DT.chk_ok,DT.chk_lf] at hok hl;obtain⟨e1,e2⟩:=VJ hc
     have hs':ES (if m=true then EX args d else d) (if m=true then fzArgs args s else s):=by
      cases m with
      |false=>exact hs
      |true=>exact V3 args hs (Vs e2)
     exact iV ho.1 hs' hc hok.1 λ s' hs'=>hK _ _ hs' hok.2 hl
 | callv m f p D args i c=>
   simp only[Cx] at hok hl;simp only[DOp.er,CZ]
   cases hc:RQ i c D args (if m=true then EX args d else d) with
   |none=>rw[hc] at hok;exact hok.elim
   | some r=>
     obtain⟨g,v,d1⟩:=r;rw[hc] at hok hl;simp only[DT.chk_ok,DT.chk_lf] at hok hl;obtain⟨hcv,e0,hc⟩:=jC hc;obtain⟨e1,e2⟩:=VJ hc
     have hs':ES (if m=true then EX args d else d) (if m=true then fzArgs args s else s):=by
      cases m with
      |false=>exact hs
      |true=>exact V3 args hs (Vs e2)
     refine⟨⟨?_,?_⟩,iV ho.1 hs' hc hok.1 λ s' hs'=>hK _ _ hs' hok.2 hl⟩
     . rw[WE hs' args e2,OE,Lo,hcv]
     . have:=Kz hs' (.b i) [c] (λ e=>by rw[e] at e0;cases e0);rw[this];unfold DV.ownS at e0;split at e0
       . rename_i r l h;rw[h];exact⟨_,rfl⟩
       . rename_i h;rw[h];exact⟨_,rfl⟩
       . cases e0
 | fz x=>
   simp only[Cx] at hok hl;simp only[DOp.er,CZ];by_cases hk:(Fs x d).1.ok=true
   . rw[Ac hk] at hok hl;obtain⟨e1,e2⟩:=vl x hs hk;rw[e1,<- jZ];exact hK _ _ (e2.put dst _) hok hl
   . rw[Af hk] at hok;exact hok.elim
 | fzb a o=>
   simp only[Cx] at hok hl;simp only[DOp.er,CZ]
   cases hc:Nt (a.dev d.sl) d with
   |none=>rw[hc] at hok;exact hok.elim
   | some d1=>
     rw[hc] at hok hl;simp only at hok hl
     cases hst:Bp false o none d1 with
     |none=>rw[hst] at hok;exact hok.elim
     | some r=>
       obtain⟨g,v,d2⟩:=r;rw[hst] at hok hl;simp only[DT.chk_ok,DT.chk_lf] at hok hl;obtain⟨s1,k1,k2⟩:=Zbk hs (a.dev_ev hs) hc;obtain⟨s',e1,e2⟩:=Vd k2 hst hok.1;simp only[k1,e1];exact hK _ _ (e2.put dst v) hok.2 hl
 | clm a t o=>
   simp only[Cx] at hok hl;simp only[DOp.er,CZ]
   cases hc:Nj a t d with
   |none=>rw[hc] at hok;exact hok.elim
   | some r=>
     obtain⟨g0,d1⟩:=r;rw[hc] at hok hl;simp only at hok hl
     cases hst:Bp false o none d1 with
     |none=>rw[hst] at hok;exact hok.elim
     | some r=>
       obtain⟨g,v,d2⟩:=r;rw[hst] at hok hl;simp only[DT.chk_ok,DT.chk_lf] at hok hl;have hg:=(PX.land_den _ _).mp hok.1
       refine Zbc hs hc hg.1 λ s1 hs1=>?_
       obtain⟨s',e1,e2⟩:=Vd hs1 hst hg.2;simp only[e1];exact hK _ _ (e2.put dst v) hok.2 hl
 | a m o ty=>
   have gen:(match Bp m o ty d with|some (g,v,st)=>DT.chk' g (K (st.put dst v))|none=>DT.bad).ok.den->(match Bp m o ty d with|some (g,v,st)=>DT.chk' g (K (st.put dst v))|none=>DT.bad).lf=some (E,D')->CZ (DOp.a m o ty).er dst k s:=by
    intro hok hl
    cases hst:Bp m o ty d with
    |none=>rw[hst] at hok;exact hok.elim
    | some r=>
      obtain⟨g,v,d1⟩:=r;rw[hst] at hok hl;simp only[DT.chk_ok,DT.chk_lf] at hok hl;obtain⟨s',e1,e2⟩:=Vd hs hst hok.1;simp only[DOp.er,CZ,e1];exact hK _ _ (e2.put dst v) hok.2 hl
   cases o<;>first|exact gen hok hl|skip
   case pick c a b=>
    clear gen;simp only[Cx] at hok hl;have hc:=c.dev_ev hs
    have one:∀ (x:Opnd),(match Bo x d with|(v,st)=>if v.ok=true then K (st.put dst v) else DT.bad).ok.den->(match Bo x d with|(v,st)=>if v.ok=true then K (st.put dst v) else DT.bad).lf=some (E,D')->k ((mvOut x s).2.put dst (mvOut x s).1):=by
     intro x hok hl;by_cases hv:(Bo x d).1.ok=true
     . simp only[Ac hv] at hok hl;obtain⟨m1,m2⟩:=Fm x hs hv;rw[m1];exact hK _ _ (m2.put dst _) hok hl
     . simp only[Af hv] at hok;exact hok.elim
    cases hcv:c.dev d.sl with
    | bool t=>
      rw[hcv] at hc;have hp:=hc.of (by simp);simp only[DOp.er,CZ,BC,hp,DV.enc]
      cases t with
      | lit t=>
        rw[hcv] at hok hl
        cases t with
        |true=>exact one a hok hl
        |false=>exact one b hok hl
      | dyn t=>
        rw[hcv] at hok hl;simp only at hok hl;split at hok
        . rename_i h;rw[Ac h] at hl;have hok:=(PX.if_den _ _ _).mp hok
          cases t with
          |true=>exact one a (hok.1 rfl) hl
          |false=>exact one b (hok.2 rfl) hl
        . rename_i h;rw[Af h] at hl;simp only[Gs,B7,CM] at h;obtain⟨⟨h1,h2⟩,h3⟩:=h
          have ka:a.dev d.sl≠.any:=by
           intro e;rw[e] at h3;cases hb:b.dev d.sl<;>rw[hb] at h3<;>cases h3
          have kb:b.dev d.sl≠.any:=by
           intro e;rw[e] at h3;cases hb:a.dev d.sl<;>rw[hb] at h3<;>cases h3
          have hm:DF t (a.dev d.sl) (b.dev d.sl)≠.any:=by intro e;rw[e] at h3;cases h3
          have he:=(WO t (a.dev d.sl) (b.dev d.sl)).resolve_left hm;have:=hK _ _ (hs.put dst (DF t (a.dev d.sl) (b.dev d.sl))) hok hl;rw[he] at this;simp only[BX.b]
          cases t with
          |true=>simp only[AO,kc a hs ka h1];exact this
          |false=>simp only[AK,AS,kc b hs kb h2];exact this
    |_=>rw[hcv] at hok;exact hok.elim
theorem km{d:DS}{s:PS}{g:Nat}{b:Bool}(hs:ES d s)(h:Aa s.sl g= .fl (.bool b)):ES (Nr d g b) s:=by
 refine⟨?_,hs.bx,hs.hp⟩
 have:∀ {a:List DC} {l:List PV} (n:Nat),EL a l->Aa l n= .fl (.bool b)->EL (DX a n (.bool (.lit b))) l:=by
  intro a
  induction a with
  |nil=>intro l n h _;exact h
  | cons c a ih=>
    intro l n h hg
    cases l with
    |nil=>exact h.elim
    | cons p l=>
      cases n with
      |zero=>exact⟨.inr hg,h.2⟩
      |succ n=>exact⟨h.1,ih n h.2 hg⟩
 exact this g hs.sl h
theorem Zai{o:DOper}(ho:AllD o.op.obs){K:DS->DT}{k:PS->Prop}(hK:SF E D' K k):SF E D' (PJ o K) (λ s=>IB o.er k s):=by
 intro d s hs hok hl
 have skip:∀ {d s},ES d s->(K (d.put o.dst (.tup []))).ok.den->(K (d.put o.dst (.tup []))).lf=some (E,D')->k (s.put o.dst (.tup [])):=λ hs hok hl=>hK _ _ (hs.put o.dst (.tup [])) hok hl
 unfold PJ at hok hl;unfold IB;simp only[DOper.er]
 cases hg:o.guard with
 |none=>rw[hg] at hok hl;exact WU ho hK d s hs hok hl
 | some g=>
   obtain⟨g,want⟩:=g;rw[hg] at hok hl;simp only at hok hl ⊢;have hv:=hs.sl.get g
   cases hgv:Bq d.sl g with
   | bool t=>
     rw[hgv] at hok hl hv;have hp:=hv.of (by simp);simp only[DV.enc] at hp;rw[hp];simp only
     cases t with
     | lit t=>
       simp only at hok hl;by_cases hw:t=want
       . rw[Ac (by simpa using hw)] at hok hl;rw[Ac (show (BX.lit t).b=want from hw)];exact WU ho hK d s hs hok hl
       . rw[Af (by simpa using hw)] at hok hl;rw[Af (show ¬ (BX.lit t).b=want from hw)];exact skip hs hok hl
     | dyn t=>
       simp only[BX.b] at hp ⊢;have hok:=(PX.if_den _ _ _).mp hok;have hs2:=km hs hp
       cases t with
       | true=>
         have hok:=hok.1 rfl;simp only[DT.lf] at hl
         cases want with
         |true=>exact WU ho hK _ s hs2 hok hl
         |false=>exact skip hs2 hok hl
       | false=>
         have hok:=hok.2 rfl;simp only[DT.lf] at hl
         cases want with
         |true=>exact skip hs2 hok hl
         |false=>exact WU ho hK _ s hs2 hok hl
   | tup vs=>
     cases vs with
     | nil=>
       rw[hgv] at hok hl hv;have hp:=hv.of (by simp);simp only[DV.enc,DV.encL] at hp;rw[hp];exact skip hs hok hl
     |cons v r=>rw[hgv] at hok;exact hok.elim
   |_=>rw[hgv] at hok;exact hok.elim
theorem bR:∀ (ops:List DOper),AllD (Wf ops)->∀ {k:PS->Prop},E= .normal->(∀ s,ES D' s->k s)->SF E D' (JK ops) (λ s=>JF (ops.map λ o=>o.er) k s)
 | [],_,k,hE,hk=>by
   intro d s hs hok hl
   simp only[JK,DT.lf,Ak,Am] at hl
   obtain⟨_,rfl⟩:=hl
   exact hk s hs
 | o::r,ho,k,hE,hk=>by
   obtain⟨h1,h2⟩:=ho.app
   exact Zai h1 (bR r h2 hE hk)
end
theorem yH{o:DOp}{dst:Option Nat}{K:DS->DT}{b:DS}(hK:∀ d,ChgS b d->(K d).All (ChgS b)):∀ d,ChgS b d->(Cx o dst K d).All (ChgS b):=by
 intro d hd
 cases o with
 | call m f p D args=>
   simp only[Cx]
   cases hc:Nb D args (if m=true then EX args d else d) with
   |none=>trivial
   | some r=>
     obtain⟨g,v,d1⟩:=r;obtain⟨rfl,_⟩:=jc hc;refine DT.chk_all _ (hK _ ((hd.trans ?_).trans (ChgS.put _ _ _)))
     cases m with
     |true=>exact DS.fzArgs_chg args d
     |false=>exact ChgS.refl d
 | aw ws m o ty=>
   simp only[Cx]
   cases hst:MZ ws m o ty d with
   |none=>trivial
   | some r=>
     obtain⟨g,v,d1⟩:=r;exact DT.chk_all _ (hK _ ((hd.trans (wA hst)).trans (ChgS.put _ _ _)))
 | mark f M x y=>
   simp only[Cx]
   cases hst:Na M x y d with
   |none=>trivial
   | some r=>
     obtain⟨g,v,d1⟩:=r;exact DT.chk_all _ (hK _ ((hd.trans (xx hst)).trans (ChgS.put _ _ _)))
 | callp m f p D args=>
   simp only[Cx]
   cases hc:KG D args (if m=true then EX args d else d) with
   |none=>trivial
   | some r=>
     obtain⟨g,v,d1⟩:=r;obtain⟨h1,_⟩:=VJ hc;refine DT.chk_all _ (hK _ (((hd.trans ?_).trans h1).trans (ChgS.put _ _ _)))
     cases m with
     |true=>exact DS.fzArgs_chg args d
     |false=>exact ChgS.refl d
 | fz x=>
   simp only[Cx];split
   . exact hK _ ((hd.trans (ChgS.fzOut x d)).trans (ChgS.put _ _ _))
   . trivial
 | fzb a o=>
   simp only[Cx]
   cases hc:Nt (a.dev d.sl) d with
   |none=>trivial
   | some d1=>
     simp only
     cases hst:Bp false o none d1 with
     |none=>trivial
     | some r=>
       obtain⟨g,v,d2⟩:=r;exact DT.chk_all _ (hK _ (((hd.trans (yD hc)).trans (VF hst)).trans (ChgS.put _ _ _)))
 | clm a t o=>
   simp only[Cx]
   cases hc:Nj a t d with
   |none=>trivial
   | some r=>
     obtain⟨g0,d1⟩:=r;simp only
     cases hst:Bp false o none d1 with
     |none=>trivial
     | some r=>
       obtain⟨g,v,d2⟩:=r;exact DT.chk_all _ (hK _ (((hd.trans (za hc)).trans (VF hst)).trans (ChgS.put _ _ _)))
 | callv m f p D args i c=>
   simp only[Cx]
   cases hc:RQ i c D args (if m=true then EX args d else d) with
   |none=>trivial
   | some r=>
     obtain⟨g,v,d1⟩:=r;obtain⟨_,_,hc⟩:=jC hc;obtain⟨h1,_⟩:=VJ hc;refine DT.chk_all _ (hK _ (((hd.trans ?_).trans h1).trans (ChgS.put _ _ _)))
     cases m with
     |true=>exact DS.fzArgs_chg args d
     |false=>exact ChgS.refl d
 | a m o ty=>
   have gen:(match Bp m o ty d with|some (g,v,st)=>DT.chk' g (K (st.put dst v))|none=>DT.bad).All (ChgS b):=by
    cases hst:Bp m o ty d with
    |none=>trivial
    | some r=>
      obtain⟨g,v,d1⟩:=r;exact DT.chk_all _ (hK _ ((hd.trans (VF hst)).trans (ChgS.put _ _ _)))
   cases o<;>first|exact gen|skip
   case pick c x y=>
    simp only[Cx]
    have one:∀ (x:Opnd),(match Bo x d with|(v,st)=>if v.ok=true then K (st.put dst v) else DT.bad).All (ChgS b):=by
     intro x;simp only;split
     . exact hK _ ((hd.trans (ChgS.mvOut x d)).trans (ChgS.put _ _ _))
     . trivial
    cases hcv:c.dev d.sl with
    | bool t=>
      cases t with
      |lit t=>cases t<;>exact one _
      | dyn t=>
        simp only;split
        . exact⟨one x,one y⟩
        . exact hK _ (hd.trans (ChgS.put _ _ _))
    |_=>trivial
theorem ai(d:DS)(g:Nat)(t:Bool):ChgS d (Nr d g t):=⟨Chg.put _ _ _,ChgB.refl _,ChgB.refl _⟩
theorem xe{o:DOper}{K:DS->DT}{b:DS}(hK:∀ d,ChgS b d->(K d).All (ChgS b)):∀ d,ChgS b d->(PJ o K d).All (ChgS b):=by
 intro d hd;unfold PJ;have hp:=yH (o:=o.op) (dst:=o.dst) hK
 cases hg:o.guard with
 |none=>exact hp d hd
 | some g=>
   obtain⟨g,want⟩:=g;simp only
   cases hgv:Bq d.sl g with
   | bool t=>
     cases t with
     | lit t=>
       simp only;split
       . exact hp d hd
       . exact hK _ (hd.trans (ChgS.put _ _ _))
     | dyn t=>
       have h1:=hd.trans (ai d g true);have h2:=hd.trans (ai d g false)
       cases want with
       |true=>exact⟨hp _ h1,hK _ (h2.trans (ChgS.put _ _ _))⟩
       |false=>exact⟨hK _ (h1.trans (ChgS.put _ _ _)),hp _ h2⟩
   | tup vs=>
     cases vs with
     |nil=>exact hK _ (hd.trans (ChgS.put _ _ _))
     |cons v r=>trivial
   |_=>trivial
theorem Z3{b:DS}:∀ (ops:List DOper) (d:DS),ChgS b d->(JK ops d).All (ChgS b)
 |[],_,h=>h
 |_::r,d,h=>xe (Z3 r) d h
theorem lW:∀ (ops:List DOper) {d d':DS} {e:AExit},(JK ops d).lf=some (e,d')->e= .normal:=by
 intro ops
 have pick : ∀ {K:DS->DT} {e:AExit} {d':DS},(∀ d,(K d).lf=some (e,d')->e= .normal)->∀ (o:DOp) (dst:Option Nat) (d:DS),(Cx o dst K d).lf=some (e,d')->e= .normal:=by
  intro K e d' hK o dst d hl
  cases o with
  | call m f p D args=>
    simp only[Cx] at hl;split at hl
    . rw[DT.chk_lf] at hl;exact hK _ hl
    . cases hl
  | aw ws m o ty=>
    simp only[Cx] at hl;split at hl
    . rw[DT.chk_lf] at hl;exact hK _ hl
    . cases hl
  | mark f M x y=>
    simp only[Cx] at hl;split at hl
    . rw[DT.chk_lf] at hl;exact hK _ hl
    . cases hl
  | callp m f p D args=>
    simp only[Cx] at hl;split at hl
    . rw[DT.chk_lf] at hl;exact hK _ hl
    . cases hl
  | fz x=>
    simp only[Cx] at hl;split at hl
    . exact hK _ hl
    . cases hl
  | fzb a o=>
    simp only[Cx] at hl;split at hl
    . split at hl
      . rw[DT.chk_lf] at hl;exact hK _ hl
      . cases hl
    . cases hl
  | clm a t o=>
    simp only[Cx] at hl;split at hl
    . split at hl
      . rw[DT.chk_lf] at hl;exact hK _ hl
      . cases hl
    . cases hl
  | callv m f p D args i c=>
    simp only[Cx] at hl;split at hl
    . rw[DT.chk_lf] at hl;exact hK _ hl
    . cases hl
  | a m o ty=>
    have gen:(match Bp m o ty d with|some (g,v,st)=>DT.chk' g (K (st.put dst v))|none=>DT.bad).lf=some (e,d')->e= .normal:=by
     intro hl;split at hl
     . rw[DT.chk_lf] at hl;exact hK _ hl
     . cases hl
    cases o<;>first|exact gen hl|skip
    case pick c x y=>
     simp only[Cx] at hl
     have one:∀ (x:Opnd),(match Bo x d with|(v,st)=>if v.ok=true then K (st.put dst v) else DT.bad).lf=some (e,d')->e= .normal:=by
      intro x hl;simp only at hl;split at hl
      . exact hK _ hl
      . cases hl
     cases hcv:c.dev d.sl with
     | bool t=>
       rw[hcv] at hl
       cases t with
       |lit t=>cases t<;>exact one _ hl
       | dyn t=>
         simp only at hl;split at hl
         . cases t<;>exact one _ hl
         . exact hK _ hl
     |_=>rw[hcv] at hl;cases hl
 induction ops with
 | nil=>
   intro d d' e hl;simp only[JK,DT.lf,Ak,Am] at hl;exact hl.1.symm
 | cons o r ih=>
   intro d d' e hl
   have hr:∀ d,(JK r d).lf=some (e,d')->e= .normal:=λ d h=>ih h
   simp only[JK] at hl;unfold PJ at hl
   cases hg:o.guard with
   |none=>rw[hg] at hl;exact pick hr _ _ _ hl
   | some g=>
     obtain⟨g,want⟩:=g;rw[hg] at hl;simp only at hl
     cases hgv:Bq d.sl g with
     | bool t=>
       rw[hgv] at hl
       cases t with
       | lit t=>
         simp only at hl;split at hl
         . exact pick hr _ _ _ hl
         . exact hr _ hl
       | dyn t=>
         cases t<;>cases want<;>first|exact pick hr _ _ _ hl|exact hr _ hl
     | tup vs=>
       rw[hgv] at hl
       cases vs with
       |nil=>exact hr _ hl
       |cons v r=>cases hl
     |_=>rw[hgv] at hl;cases hl
end
end Go.Ag
