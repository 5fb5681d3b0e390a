/- Part 1 of what FnPressed needs. No conditions. -/
import GoSem.Core.View
import Derived.Orders
import GoSem.Claims
import Derived.Laws.AppendOwn
import Derived.Laws.MakeOwn
import Derived.Laws.Cells
import Derived.Laws.Strings
import Derived.Laws.StructEq
import Derived.Laws.Slices
import Derived.Laws.Concat
import Derived.Laws.BytesString
import Derived.Laws.Pointers
import Derived.Laws.CopyRow
import Derived.Laws.Rows
namespace Go.Ag
set_option linter.unusedSimpArgs false
set_option linter.unusedVariables false
noncomputable section
abbrev Mc:=@Array.getD_eq_getD_getElem?
abbrev SM:=@Array.getElem?_setIfInBounds
abbrev Gb:=@Bool.and_eq_false_iff
abbrev Ah:=@Bool.and_eq_true
abbrev Dm:=@Bool.and_self
abbrev Mh:=@Bool.and_true
abbrev JN:=@Bool.eq_iff_iff
abbrev XR:=@Bool.false_and
abbrev AL:=@Bool.false_eq_true
abbrev IW:=@Bool.not_eq_false
abbrev CJ:=@Bool.not_eq_false'
abbrev Gz:=@Bool.not_eq_true
abbrev BC:=@Bool.not_eq_true'
abbrev Sn:=@Bool.not_not
abbrev Gy:=@Bool.not_true
abbrev Ca:=@Bool.or_eq_false_iff
abbrev Cp:=@Bool.or_eq_true
abbrev NB:=@Bool.true_and
abbrev G6:=@Int.ofNat_lt
abbrev Bn:=@Int.toNat_natCast
abbrev GB:=@List.all_cons
abbrev Dz:=@List.all_eq_true
abbrev Co:=@List.append_assoc
abbrev Sx:=@List.append_nil
abbrev Su:=@List.append_of_mem
abbrev G5:=@List.cons.injEq
abbrev Eg:=@List.cons_append
abbrev cR:=@List.contains_eq_mem
abbrev cG:=@List.drop_eq_getElem_cons
abbrev Ha:=@List.drop_zero
abbrev FA:=@List.eq_nil_of_length_eq_zero
abbrev P0:=@List.exists_mem_of_ne_nil
abbrev ck:=@List.ext_getElem
abbrev IG:=@List.ext_getElem?
abbrev Xr:=@List.extract_eq_take_drop
abbrev JD:=@List.flatten_cons
abbrev Ee:=@List.getD_eq_getElem?_getD
abbrev Bx:=@List.getElem?_append_left
abbrev Db:=@List.getElem?_append_right
abbrev Sm:=@List.getElem?_cons_succ
abbrev L6:=@List.getElem?_drop
abbrev Bf:=@List.getElem?_eq_getElem
abbrev BV:=@List.getElem?_eq_none
abbrev HD:=@List.getElem?_map
abbrev cO:=@List.getElem?_mapIdx
abbrev JB:=@List.getElem?_of_mem
abbrev G7:=@List.getElem?_set
abbrev IJ:=@List.getElem?_take
abbrev PZ:=@List.getElem?_take_of_lt
abbrev Gw:=@List.getElem_mem
abbrev IF:=@List.getElem_of_mem
abbrev Cq:=@List.length_append
abbrev AH:=@List.length_cons
abbrev Nz:=@List.length_drop
abbrev Bc:=@List.length_map
abbrev AJ:=@List.length_nil
abbrev Eu:=@List.length_take
abbrev Gx:=@List.map_append
abbrev Cr:=@List.map_cons
abbrev P4:=@List.map_nil
abbrev Xq:=@List.map_take
abbrev CF:=@List.mem_append
abbrev dh:=@List.mem_append_left
abbrev cn:=@List.mem_append_right
abbrev Cz:=@List.mem_cons
abbrev G9:=@List.mem_cons_self
abbrev IK:=@List.mem_map_of_mem
abbrev HG:=@List.mem_of_getElem?
abbrev KU:=@List.mem_of_mem_take
abbrev CW:=@List.nil_append
abbrev PY:=@List.nodup_append
abbrev Mb:=@List.nodup_cons
abbrev Xk:=@List.size_toArray
abbrev HE:=@List.take_length
abbrev P1:=@List.take_of_length_le
abbrev cJ:=@List.take_succ_cons
abbrev Sj:=@Nat.add_assoc
abbrev EJ:=@Nat.add_mul
abbrev cx:=@Nat.add_right_comm
abbrev HF:=@Nat.add_zero
abbrev XL:=@Nat.div_add_mod
abbrev Xn:=@Nat.div_lt_iff_lt_mul
abbrev dt:=@Nat.eq_zero_or_pos
abbrev Dd:=@Nat.le_of_ble_eq_true
abbrev BI:=@Nat.le_refl
abbrev JC:=@Nat.le_trans
abbrev KW:=@Nat.lt_of_lt_of_le
abbrev BN:=@Nat.lt_or_ge
abbrev Xf:=@Nat.lt_succ_self
abbrev KS:=@Nat.mod_lt
abbrev Xh:=@Nat.mul_comm
abbrev KR:=@Nat.mul_le_mul_right
abbrev Sr:=@Nat.mul_one
abbrev Xg:=@Nat.not_lt_zero
abbrev GD:=@Nat.one_mul
abbrev L5:=@Nat.sub_zero
abbrev Nv:=@Nat.succ_mul
abbrev Cf:=@Nat.zero_add
abbrev GC:=@Nat.zero_le
abbrev NA:=@Nat.zero_mul
abbrev Hv:=@Ne.symm
abbrev B9:=@Option.bind_eq_some_iff
abbrev JA:=@Option.bind_some
abbrev Hs:=@Option.getD_some
abbrev B8:=@Option.map_eq_some_iff
abbrev Cv:=@Option.map_some
abbrev C9:=@Option.some.inj
abbrev Ak:=@Option.some.injEq
abbrev Al:=@Prod.mk.injEq
abbrev Dk:=@Result.andThen_ok
abbrev D2:=@Sem.run_bind
abbrev PF:=@Sem.run_pure
abbrev WY:=@World.cell?_of_block
abbrev Jz:=@and_true
abbrev Jv:=@beq_eq_false_iff_ne
abbrev A0:=@beq_iff_eq
abbrev Sb:=@bne_iff_ne
abbrev Ht:=@cond_false
abbrev Hx:=@cond_true
abbrev DP:=@decide_eq_false
abbrev Bo:=@decide_eq_false_iff_not
abbrev Iy:=@decide_eq_true
abbrev Ar:=@decide_eq_true_eq
abbrev AQ:=@if_false
abbrev Ae:=@if_neg
abbrev Ac:=@if_pos
abbrev AN:=@if_true
abbrev HB:=@ne_eq
abbrev PH:=@not_true_eq_false
abbrev b9:=@run_bytesToString
abbrev WW:=@run_sliceBound
abbrev Sf:=@size_madeCells
abbrev HA:=@true_and
inductive V where
 |undef
 |bool (b:Bool)
 |int (k:IntKind) (n:Int)
 |str (s:List UInt8)
 |nils
 |slice (l o n:Nat)
 |box (i o:Nat)
 |ptr (l o:Nat)
 |ifc (nil:Bool)
 |agg (cs:List V)
 |tup (vs:List V)
 deriving Inhabited
inductive BK where
 |ro|own|dead
 deriving DecidableEq
structure Blk where
 k:BK
 w:Nat
 cs:List V
abbrev Ad:=List Blk
structure St where
 sl:List V
 bx:List (List V)
 hp:Ad
abbrev Be:=List V->Ad->(V->Ad->Prop)->Prop
inductive Opnd where
 |t (n:Nat)
 |c (v:V)
inductive KP where
 |no|all|box (i c:Nat)
inductive AOp where
 |mv (x:Opnd)
 |nilck (x:Opnd)
 |pick (c a b:Opnd)
 |allocB (i:Nat) (zs:List V)
 |boxB (i n:Nat) (x:Opnd)
 |allocH (zs:List V)
 |boxH (n:Nat) (x:Opnd)
 |build (zs:List V) (ps:List (Nat×Nat×Opnd))
 |mkSlice (w:Nat) (z:List V) (len:Opnd)
 |litSlice (w n:Nat) (zs:List V) (ps:List (Nat×Nat×Opnd))
 |loadB (i:Nat) (n:Option Nat) (a:Opnd)
 |loadH (n:Option Nat) (a:Opnd)
 |loadX (i c:Nat) (n:Option Nat) (a:Opnd)
 |storeB (i n:Nat) (a x:Opnd)
 |storeH (n:Nat) (a x:Opnd)
 |bin (op:BinOp) (x y:Opnd)
 |eqB (neg:Bool) (x y:Opnd)
 |eqN (neg:Bool) (x y:Opnd)
 |eqA (n:Nat) (neg:Bool) (x y:Opnd)
 |un (op:UnOp) (x:Opnd)
 |conv (k:IntKind) (x:Opnd)
 |bstr (x:Opnd)
 |slice (w:Nat) (x:Opnd) (lo hi:Option Opnd)
 |substr (x:Opnd) (lo hi:Option Opnd)
 |fieldA (off:Nat) (a:Opnd)
 |field (off:Nat) (n:Option Nat) (x:Opnd)
 |indexA (w:Nat) (x i:Opnd)
 |index (x i:Opnd)
 |len (x:Opnd)
 |lenT (x:Opnd)
 |app (w:Nat) (x y:Opnd)
 |appN (w:Nat) (x y:Opnd)
 |minI (x y:Opnd)
 |maxI (x y:Opnd)
 |extract (x:Opnd) (i:Nat)
 |callB (kp:KP) (f:Be) (args:List Opnd)
@[reducible] def AOp.call (f:Be) (args:List Opnd):AOp:=.callB .no f args
structure AOper where
 id:Nat
 dst:Option Nat
 op:AOp
 guard:Option (Nat×Bool)
 anc:List Nat
inductive ACode where
 |skip
 |region (ops:List AOper)
 |regionU (ops:List AOper)
 |seq (a b:ACode)
 |cond (c:Opnd) (a b:ACode)
 |block (id:Nat) (a:ACode)
 |loop (live:List Nat) (a:ACode)
 |exit (id:Nat)
 |ret
inductive AExit where
 |normal
 |exit (id:Nat)
 |ret
inductive ARes where
 |tmp (t:Nat)
 |cell (t:Nat) (n:Option Nat)
structure AFun where
 nparams:Nat
 nslots:Nat
 nbox:Nat
 pure:Bool
 res:List ARes
 body:ACode
def get:List V->Nat->V
 |[],_=>.undef
 |x::_,0=>x
 |_::r,n+1=>get r n
def put:List V->Nat->V->List V
 |[],_,_=>[]
 |_::r,0,v=>v::r
 |x::r,n+1,v=>x::put r n v
def AW:List (List V)->Nat->List V
 |[],_=>[]
 |x::_,0=>x
 |_::r,n+1=>AW r n
def Dr:List (List V)->Nat->List V->List (List V)
 |[],_,_=>[]
 |_::r,0,v=>v::r
 |x::r,n+1,v=>x::Dr r n v
def SJ(bx:List (List V)):KP->Be->Be
 |.no,f=>f
 |.all,f=>λ args h Q=>∃ Q0:V->Ad->Prop,f args h Q0/\∀ r h',Q0 r h'->(∀ l,l<h.length->h'[l]?=h[l]?)/\Q r h'
 |.box i c,f=>λ args h Q=>∃ Q0:V->Ad->Prop,f args h Q0/\∀ r h',Q0 r h'->(∀ l o n,get (AW bx i) c= .slice l o n->l<h.length->h'[l]?=h[l]?)/\Q r h'
def Td:V->V->Bool
 |.slice l _ _,.ptr l' _=>l == l'
 |_,_=>false
def splice:List V->Nat->List V->List V
 |cs,0,[]=>cs
 |[],0,_::_=>[]
 |_::r,0,v::vs=>v::splice r 0 vs
 |[],_+1,_=>[]
 |c::r,n+1,vs=>c::splice r n vs
def V.cells:V->List V
 |.agg cs=>cs
 |v=>[v]
def V.cell:V->Bool
 |.bool _|.int ..|.str _|.nils|.slice ..|.ptr ..|.ifc _=>true
 |_=>false
def V.flat:V->Bool
 |.bool _|.int ..|.str _|.nils|.ifc _=>true
 |_=>false
def V.flat1:V->Bool
 |.agg cs=>cs.all V.flat
 |v=>v.flat
def V.flat2:V->Bool
 |.tup vs=>vs.all V.flat1
 |v=>v.flat1
def V.ok1:V->Bool
 |.agg cs=>cs.all V.cell
 |v=>v.cell
def Opnd.ev(s:List V):Opnd->V
 |.t n=>get s n
 |.c v=>v
def V.isBox(i:Nat):V->Bool
 |.box j _=>i == j
 |_=>false
def clearBox(i:Nat):List V->List V
 |[]=>[]
 |v::r=>(if v.isBox i then .undef else v)::clearBox i r
def keep(live:List Nat):Nat->List V->List V
 |_,[]=>[]
 |n,v::r=>(if live.contains n then v else .undef)::keep live (n+1) r
def St.put(st:St)(d:Option Nat)(v:V):St:=
 match d with
 |none=>st
 |some d=>{ st with sl:=Ag.put st.sl d v }
def rd(h:Ad)(l o n:Nat):Option (List V):=
 match h[l]? with
 |some b=>if b.k≠.dead/\o+n<=b.cs.length then some ((b.cs.drop o).take n) else none
 |none=>none
def wr(h:Ad)(l o:Nat)(vs:List V):Option Ad:=
 match h[l]? with
 |some b=>if b.k= .own/\o+vs.length<=b.cs.length then some (h.set l { b with cs:=splice b.cs o vs }) else none
 |none=>none
def Av(n:Nat):Prop:=n<=2^40
instance (n:Nat):Decidable (Av n):=inferInstanceAs (Decidable (n<=2^40))
def EH(h:Ad)(l:Nat):Option Nat:=
 match h[l]? with
 |some b=>some b.w
 |none=>none
def Ed(h:Ad)(w:Nat):V->Option (List V×Nat)
 |.nils=>some ([],0)
 |.slice l o n=>(rd h l o (n*w)).map λ cs=>(cs,n)
 |.str s=>if w=1 then some (s.map λ b=>.int .u8 b.toNat,s.length) else none
 |_=>none
def app (h:Ad)(w:Nat)(x y:V):Option (V×Ad):=
 match Ed h w y with
 |none=>none
 | some (new,k)=>
   match x with
   | .nils=>
     if k=0 then some (.nils,h)
     else if Av (k*w) then some (.slice h.length 0 k,h++[⟨.own,w,new⟩]) else none
   | .slice l o n=>
     if k=0 then some (.slice l o n,h)
     else match h[l]? with
      | some b=>
        if b.k= .own/\b.w=w/\o=0/\n*w<=b.cs.length/\Av ((n+k)*w) then
         some (.slice h.length 0 (n+k),h.set l ⟨.dead,w,[]⟩++[⟨.own,w,b.cs.take (n*w)++new⟩])
        else none
      |none=>none
   |_=>none
def DE(z:List V):Nat->List V
 |0=>[]
 |n+1=>z++DE z n
def JG(op:BinOp)(k:IntKind)(a b:Int):Option V:=
 match op with
 |.add=>some (.int k (k.wrap (a+b)))
 |.sub=>some (.int k (k.wrap (a-b)))
 |.mul=>some (.int k (k.wrap (a*b)))
 |.quo=>if b=0 then none else some (.int k (k.wrap (a.tdiv b)))
 |.rem=>if b=0 then none else some (.int k (a.tmod b))
 |.and=>some (.int k (k.wrap (BitVec.ofInt k.bits a &&& BitVec.ofInt k.bits b).toNat))
 |.or=>some (.int k (k.wrap (BitVec.ofInt k.bits a ||| BitVec.ofInt k.bits b).toNat))
 |.xor=>some (.int k (k.wrap (BitVec.ofInt k.bits a ^^^ BitVec.ofInt k.bits b).toNat))
 |.andNot=>some (.int k (k.wrap (BitVec.ofInt k.bits a &&& ~~~BitVec.ofInt k.bits b).toNat))
 |.eql=>some (.bool (a == b))
 |.neq=>some (.bool (a != b))
 |.lss=>some (.bool (decide (a<b)))
 |.leq=>some (.bool (decide (a<=b)))
 |.gtr=>some (.bool (decide (a > b)))
 |.geq=>some (.bool (decide (a>=b)))
 |_=>none
def Nd(op:BinOp)(k:IntKind)(a b:Int):Option V:=
 if b<0 then none else
 match op with
 |.shl=>some (.int k (k.wrap (a*2^min b.toNat k.bits)))
 |.shr=>some (.int k (a.fdiv (2^min b.toNat k.bits)))
 |_=>none
def PQ:V->V->Option Bool
 |.int k a,.int k' b=>if k=k' then some (a == b) else none
 |_,_=>none
def Et:List V->List V->Option Bool
 |[],[]=>some true
 | a::x,b::y=>
   match PQ a b with
   |some true=>Et x y
   |some false=>some false
   |none=>none
 |_,_=>none
def IP(op:BinOp)(x y:V):Option V:=
 match x,y with
 | .int k a,.int k' b=>
   match op with
   |.shl|.shr=>Nd op k a b
   |_=>if k=k' then JG op k a b else none
 | .str a,.str b=>
   match op with
   |.add=>if a.length+b.length<=9223372036854775807 then some (.str (a++b)) else none
   |.eql=>some (.bool (a == b))
   |.neq=>some (.bool (!(a == b)))
   |_=>none
 |_,_=>none
def Mt(op:UnOp)(x:V):Option V:=
 match op,x with
 |.not,.bool b=>some (.bool (!b))
 |.neg,.int k n=>some (.int k (k.wrap (0-n)))
 |_,_=>none
def Fe(s:List V):List V->List (Nat×Nat×Opnd)->Option (List V)
 |cs,[]=>some cs
 | cs,(off,size,x)::r=>
   let v:=(x.ev s).cells
   if v.length=size/\off+size<=cs.length/\v.all V.cell then Fe s (splice cs off v) r else none
def Dp(n:Option Nat)(cs:List V):Option V:=
 match n,cs with
 |some _,cs=>some (.agg cs)
 |none,[v]=>some v
 |none,_=>none
def E4(d:Nat):Option V->Option Nat
 |none=>some d
 |some (.int _ i)=>if 0<=i then some i.toNat else none
 |some _=>none
def PM:List V->Option (List UInt8)
 |[]=>some []
 |.int .u8 n::r=>(PM r).map λ s=>UInt8.ofNat n.toNat::s
 |_::_=>none
def Af(o:AOp)(st:St):Option (V×List (List V)×Ad):=
 let s:=st.sl
 let val (v:V):Option (V×List (List V)×Ad):=some (v,st.bx,st.hp)
 match o with
 |.mv x=>val (x.ev s)
 | .nilck x=>match x.ev s with
   |.box i o=>val (.box i o)
   |.ptr l o=>val (.ptr l o)
   |_=>none
 | .pick c a b=>match c.ev s with
   |.bool t=>val (if t then a.ev s else b.ev s)
   |_=>none
 |.allocB i zs=>if i<st.bx.length/\zs.all V.cell then some (.box i 0,Dr st.bx i zs,st.hp) else none
 | .boxB i n x=>
   let cs:=(x.ev s).cells
   if i<st.bx.length/\cs.length=n/\cs.all V.cell then some (.box i 0,Dr st.bx i cs,st.hp) else none
 |.allocH zs=>if zs.all V.cell then some (.ptr st.hp.length 0,st.bx,st.hp++[⟨.own,1,zs⟩]) else none
 | .boxH n x=>
   let cs:=(x.ev s).cells
   if cs.length=n/\cs.all V.cell then some (.ptr st.hp.length 0,st.bx,st.hp++[⟨.own,1,cs⟩]) else none
 |.build zs ps=>if zs.all V.cell then (Fe s zs ps).bind λ cs=>val (.agg cs) else none
 | .mkSlice w z len=>match len.ev s with
   | .int .i64 n=>
     if 0<=n/\z.length=w/\0<w/\z.all V.cell/\Av (n.toNat*w) then
      if n=0 then val .nils else some (.slice st.hp.length 0 n.toNat,st.bx,st.hp++[⟨.own,w,DE z n.toNat⟩])
     else none
   |_=>none
 | .litSlice w n zs ps=>
   if n=0 then val .nils
   else if zs.all V.cell/\zs.length=n*w/\0<w then
    (Fe s zs ps).bind λ cs=>some (.slice st.hp.length 0 n,st.bx,st.hp++[⟨.own,w,cs⟩])
   else none
 | .loadB i n a=>match a.ev s with
   | .box j o=>
     if i=j/\o+n.getD 1<=(AW st.bx i).length then (Dp n (((AW st.bx i).drop o).take (n.getD 1))).bind val else none
   |_=>none
 | .loadH n a=>match a.ev s with
   |.ptr l o=>(rd st.hp l o (n.getD 1)).bind λ cs=>(Dp n cs).bind val
   |_=>none
 | .loadX i c n a=>if Td (get (AW st.bx i) c) (a.ev s)=true then (match a.ev s with
   |.ptr l o=>(rd st.hp l o (n.getD 1)).bind λ cs=>(Dp n cs).bind val
   |_=>none) else none
 | .storeB i n a x=>match a.ev s with
   | .box j o=>
     let cs:=(x.ev s).cells
     if i=j/\i<st.bx.length/\cs.length=n/\o+n<=(AW st.bx i).length/\cs.all V.cell then some (.undef,Dr st.bx i (splice (AW st.bx i) o cs),st.hp) else none
   |_=>none
 | .storeH n a x=>match a.ev s with
   | .ptr l o=>
     let cs:=(x.ev s).cells
     if cs.length=n/\cs.all V.cell then (wr st.hp l o cs).bind λ h=>some (.undef,st.bx,h) else none
   |_=>none
 |.bin op x y=>(IP op (x.ev s) (y.ev s)).bind val
 | .eqB neg x y=>match x.ev s,y.ev s with
   |.bool a,.bool b=>val (.bool (if neg then !(a == b) else a == b))
   |_,_=>none
 | .eqN neg x y=>match x.ev s,y with
   |.ifc a,.c (.ifc true)=>val (.bool (if neg then !a else a))
   |_,_=>none
 | .eqA n neg x y=>match x.ev s,y.ev s with
   |.agg a,.agg b=>if a.length=n/\b.length=n then (Et a b).bind λ t=>val (.bool (if neg then !t else t)) else none
   |_,_=>none
 |.un op x=>(Mt op (x.ev s)).bind val
 | .conv k x=>match x.ev s with
   |.int _ n=>val (.int k (k.wrap n))
   |_=>none
 | .bstr x=>match x.ev s with
   |.nils=>val (.str [])
   |.slice l o n=>(rd st.hp l o n).bind λ cs=>(PM cs).bind λ b=>val (.str b)
   |_=>none
 | .slice w x lo hi=>match x.ev s with
   |.nils=>(E4 0 (lo.map (·.ev s))).bind λ l=>(E4 0 (hi.map (·.ev s))).bind λ h=>if l=0/\h=0 then val .nils else none
   |.slice b o n=>(E4 0 (lo.map (·.ev s))).bind λ l=>(E4 n (hi.map (·.ev s))).bind λ h=>
    if l<=h/\h<=n/\EH st.hp b=some w then val (.slice b (o+l*w) (h-l)) else none
   |_=>none
 | .substr x lo hi=>match x.ev s with
   |.str t=>(E4 0 (lo.map (·.ev s))).bind λ l=>(E4 t.length (hi.map (·.ev s))).bind λ h=>
    if l<=h/\h<=t.length then val (.str ((t.drop l).take (h-l))) else none
   |_=>none
 | .fieldA off a=>match a.ev s with
   |.box i o=>val (.box i (o+off))
   |.ptr l o=>val (.ptr l (o+off))
   |_=>none
 | .field off n x=>match x.ev s with
   |.agg cs=>if off+n.getD 1<=cs.length then (Dp n ((cs.drop off).take (n.getD 1))).bind val else none
   |_=>none
 | .indexA w x i=>match x.ev s,i.ev s with
   |.slice l o n,.int _ j=>if 0<=j/\j<n then val (.ptr l (o+j.toNat*w)) else none
   |_,_=>none
 | .index x i=>match x.ev s,i.ev s with
   |.str t,.int _ j=>if 0<=j then (match t[j.toNat]? with|some b=>val (.int .u8 b.toNat)|none=>none) else none
   |_,_=>none
 | .len x=>match x.ev s with
   |.nils=>val (.int .i64 0)
   |.slice _ _ n=>val (.int .i64 n)
   |_=>none
 | .lenT x=>match x.ev s with
   |.str t=>val (.int .i64 t.length)
   |_=>none
 |.app w x y=>if 0<w then (app st.hp w (x.ev s) (y.ev s)).bind fun(v,h)=>some (v,st.bx,h) else none
 | .appN w x y=>match x.ev s with
   |.nils=>if 0<w then (app st.hp w .nils (y.ev s)).bind fun(v,h)=>some (v,st.bx,h) else none
   |_=>none
 | .minI x y=>match x.ev s,y.ev s with
   |.int .i64 a,.int .i64 b=>val (.int .i64 (if b<a then b else a))
   |_,_=>none
 | .maxI x y=>match x.ev s,y.ev s with
   |.int .i64 a,.int .i64 b=>val (.int .i64 (if b > a then b else a))
   |_,_=>none
 | .extract x i=>match x.ev s with
   | .tup vs=>match vs[i]? with
     |some v=>val v
     |none=>none
   |_=>none
 |.callB ..=>none
theorem WK{i c:Nat}{n:Option Nat}{a:Opnd}{st:St}{r:V×List (List V)×Ad}(e:Af (.loadX i c n a) st=some r):Td (get (AW st.bx i) c) (a.ev st.sl)=true/\Af (.loadH n a) st=some r:=by
 simp only[Af] at e;split at e
 . rename_i h;exact⟨h,e⟩
 . cases e
theorem kT{i c:Nat}{n:Option Nat}{a:Opnd}{st:St}(h:Td (get (AW st.bx i) c) (a.ev st.sl)=true):Af (.loadX i c n a) st=Af (.loadH n a) st:=by
 simp only[Af,h,AN]
theorem Wu{w:Nat}{x y:Opnd}{st:St}{r:V×List (List V)×Ad}(e:Af (.appN w x y) st=some r):x.ev st.sl= .nils:=by
 simp only[Af] at e;split at e
 . assumption
 . cases e
theorem aW{w:Nat}{x y:Opnd}{st:St}(h:x.ev st.sl= .nils):Af (.appN w x y) st=Af (.app w x y) st:=by
 simp only[Af,h]
def AOp.clears(o:AOp)(s:List V):List V:=
 match o with
 |.allocB i _|.boxB i _ _=>clearBox i s
 |_=>s
def Bg(o:AOp)(d:Option Nat)(k:St->Prop)(st:St):Prop:=
 match o with
 |.callB kp f args=>(args.map (·.ev st.sl)).all V.ok1=true/\SJ st.bx kp f (args.map (·.ev st.sl)) st.hp λ r h=>k (St.put { st with hp:=h } d r)
 | o=>match Af o st with
   |some (v,bx,hp)=>k (St.put { sl:=o.clears st.sl,bx,hp } d v)
   |none=>False
def CC(o:AOper)(k:St->Prop)(st:St):Prop:=
 match o.guard with
 |none=>Bg o.op o.dst k st
 | some (g,want)=>match get st.sl g with
   |.bool b=>if b=want then Bg o.op o.dst k st else k (st.put o.dst (.tup []))
   |.tup []=>k (st.put o.dst (.tup []))
   |_=>False
def Dh:List AOper->(St->Prop)->St->Prop
 |[],k,st=>k st
 |o::r,k,st=>CC o (Dh r k) st
def AOper.pairU(p q:AOper):Bool:=match p.op,q.op with
 |.litSlice _ _ _ [(_,_,.t _)],.appN _ (.c .nils) _=>true
 |_,_=>false
def NF:List AOper->Option (List AOper)
 |p::q::r=>if p.pairU q then some (q::p::r) else (NF (q::r)).map (p::·)
 |_=>none
abbrev Gd:=AExit->St->Prop
def NU(next:St->Prop)(k:Gd):Gd
 |.normal,st=>next st
 |e,st=>k e st
def PU(id:Nat)(k:Gd):Gd
 |.exit j,st=>if j=id then k .normal st else k (.exit j) st
 |e,st=>k e st
def Qh(body:Gd->St->Prop)(live:List Nat)(k:Gd):Nat->St->Prop
 |0,_=>False
 |n+1,st=>body (NU (Qh body live k n) k) { st with sl:=keep live 0 st.sl }
def ET:ACode->Gd->St->Prop
 |.skip,k,st=>k .normal st
 |.region ops,k,st=>Dh ops (k .normal) st
 |.regionU ops,k,st=>Dh ops (k .normal) st/\∀ l2,NF ops=some l2->Dh l2 (k .normal) st
 |.seq a b,k,st=>ET a (NU (ET b k) k) st
 | .cond c a b,k,st=>match c.ev st.sl with
   |.bool t=>if t then ET a k st else ET b k st
   |_=>False
 |.block id a,k,st=>ET a (PU id k) st
 |.loop live a,k,st=>∃ n,Qh (ET a) live k n st
 |.exit id,k,st=>k (.exit id) st
 |.ret,k,st=>k .ret st
def HP(st:St):ARes->Option V
 |.tmp t=>if (get st.sl t).ok1 then some (get st.sl t) else none
 | .cell t n=>match get st.sl t with
   |.box i o=>if o+n.getD 1<=(AW st.bx i).length then Dp n (((AW st.bx i).drop o).take (n.getD 1)) else none
   |.ptr l o=>(rd st.hp l o (n.getD 1)).bind λ cs=>Dp n cs
   |_=>none
def FB(st:St):List ARes->Option (List V)
 |[]=>some []
 | r::rs=>match HP st r,FB st rs with
   |some v,some vs=>some (v::vs)
   |_,_=>none
def GJ(st:St):List ARes->Option V
 |[r]=>HP st r
 |rs=>(FB st rs).map .tup
def K5:Nat->List V
 |0=>[]
 |n+1=>.undef::K5 n
def I7:Nat->List (List V)
 |0=>[]
 |n+1=>[]::I7 n
def Yb(f:AFun)(h0:Ad)(Q:V->Ad->Prop):Gd
 | .normal,st|.ret,st=>match GJ st f.res with
   |some v=>if f.pure then v.flat2=true/\st.hp.take h0.length=h0/\Q v h0 else Q v st.hp
   |none=>False
 |.exit _,_=>False
def EK(f:AFun):Be:=λ args h Q=>
 args.length=f.nparams/\ET f.body (Yb f h Q) ⟨args++K5 (f.nslots-f.nparams),I7 f.nbox,h⟩
structure Place where
 b:Nat
 o:Nat
 c:Nat
abbrev AA:=Nat->Place
inductive Rel (ι:AA) (σ:Ad) (β:Nat->Nat):V->Value->Prop
 |undef (x:Value):Rel ι σ β .undef x
 |bool (b:Bool):Rel ι σ β (.bool b) (.bool b)
 |int (k:IntKind) (n:Int):Rel ι σ β (.int k n) (.int k n)
 |str (s:List UInt8):Rel ι σ β (.str s) (.string ⟨s.toArray⟩)
 |nils (a:Option Addr):Rel ι σ β .nils (.slice a 0 0)
 |slice (l o n c:Nat) (blk:Blk) (h:σ[l]?=some blk) (hn:n<=c) (hc:o+c*blk.w<=(ι l).c) (hw:0<blk.w):Rel ι σ β (.slice l o n) (.slice (some ⟨(ι l).b,(ι l).o+o,none⟩) n c)
 |sliceEnd (l o:Nat) (blk:Blk) (h:σ[l]?=some blk) (a:Option Addr) (hw:0<blk.w):Rel ι σ β (.slice l o 0) (.slice a 0 0)
 |box (i o:Nat):Rel ι σ β (.box i o) (.pointer (some ⟨β i,o,none⟩))
 |ptr (l o:Nat) (blk:Blk) (h:σ[l]?=some blk) (hw:0<blk.w):Rel ι σ β (.ptr l o) (.pointer (some ⟨(ι l).b,(ι l).o+o,none⟩))
 |nilIfc:Rel ι σ β (.ifc true) .nilIface
 |ifc (t:TypeId) (v:Value):Rel ι σ β (.ifc false) (.iface t v)
 |agg (cs:List V) (ws:List Value) (hl:cs.length=ws.length) (hk:∀ v,v∈cs->v.cell=true) (h:∀ (i:Nat) v w,cs[i]?=some v->ws[i]?=some w->Rel ι σ β v w):Rel ι σ β (.agg cs) (.agg ws.toArray)
 |tup (cs:List V) (ws:List Value) (hl:cs.length=ws.length) (hk:∀ v,v∈cs->v.ok1=true) (h:∀ (i:Nat) v w,cs[i]?=some v->ws[i]?=some w->Rel ι σ β v w):Rel ι σ β (.tup cs) (.tuple ws.toArray)
structure Keeps (ι:AA) (σ:Ad) (ι':AA) (σ':Ad):Prop where
 place:∀ (l:Nat) (blk:Blk),σ[l]?=some blk->ι' l=ι l
 width:∀ (l:Nat) (blk:Blk),σ[l]?=some blk->∃ blk':Blk,σ'[l]?=some blk'/\blk'.w=blk.w
theorem Keeps.refl(ι:AA)(σ:Ad):Keeps ι σ ι σ:=⟨λ _ _ _=>rfl,λ _ blk h=>⟨blk,h,rfl⟩⟩
theorem Keeps.trans{ι ι' ι'':AA}{σ σ' σ'':Ad}(a:Keeps ι σ ι' σ')(b:Keeps ι' σ' ι'' σ''):Keeps ι σ ι'' σ'':=by
 refine⟨λ l blk h=>?_,λ l blk h=>?_⟩
 . obtain⟨b1,h1,_⟩:=a.width l blk h;rw[b.place l b1 h1,a.place l blk h]
 . obtain⟨b1,h1,e1⟩:=a.width l blk h;obtain⟨b2,h2,e2⟩:=b.width l b1 h1;exact⟨b2,h2,e2.trans e1⟩
theorem Rel.mono{ι ι':AA}{σ σ':Ad}{β β':Nat->Nat}{v:V}{x:Value}(k:Keeps ι σ ι' σ')(hb:∀ i o,v= .box i o->β' i=β i)(h:Rel ι σ β v x):Rel ι' σ' β' v x:=by
 induction h with
 |undef x=>exact .undef x
 |bool b=>exact .bool b
 |int k n=>exact .int k n
 |str s=>exact .str s
 |nils a=>exact .nils a
 | slice l o n c blk h hn hc hw=>
   obtain⟨b1,h1,e1⟩:=k.width l blk h;have:=Rel.slice (ι:=ι') (σ:=σ') (β:=β') l o n c b1 h1 hn (by rw[k.place l blk h,e1];exact hc) (by rw[e1];exact hw);rwa [k.place l blk h] at this
 | sliceEnd l o blk h a hw=>
   obtain⟨b1,h1,e1⟩:=k.width l blk h;exact .sliceEnd l o b1 h1 a (by rw[e1];exact hw)
 |box i o=>rw[<- hb i o rfl];exact .box i o
 | ptr l o blk h hw=>
   obtain⟨b1,h1,e1⟩:=k.width l blk h;have:=Rel.ptr (ι:=ι') (σ:=σ') (β:=β') l o b1 h1 (by rw[e1];exact hw);rwa [k.place l blk h] at this
 |nilIfc=>exact .nilIfc
 |ifc t v=>exact .ifc t v
 | agg cs ws hl hk h ih=>
   refine .agg cs ws hl hk λ i v w hv hw=>ih i v w hv hw ?_
   intro j o e;have:=hk v (HG hv);subst e;simp[V.cell] at this
 | tup cs ws hl hk h ih=>
   refine .tup cs ws hl hk λ i v w hv hw=>ih i v w hv hw ?_
   intro j o e;have:=hk v (HG hv);subst e;simp[V.ok1,V.cell] at this
theorem Rel.cellMono{ι ι':AA}{σ σ':Ad}{β β':Nat->Nat}{v:V}{x:Value}(k:Keeps ι σ ι' σ')(hv:v.cell=true)(h:Rel ι σ β v x):Rel ι' σ' β' v x:=
 h.mono k λ i o e=>by subst e;simp[V.cell] at hv
structure HRel (ι:AA) (σ:Ad) (w:World):Prop where
 cells:∀ (l:Nat) (blk:Blk),σ[l]?=some blk->blk.k≠.dead->∀ (i:Nat) v,blk.cs[i]?=some v->v.cell=true/\∃ x,w.cell? ⟨(ι l).b,(ι l).o+i,none⟩=some x/\∀ β,Rel ι σ β v x
 own:∀ (l:Nat) (blk:Blk),σ[l]?=some blk->blk.k= .own->(ι l).o=0/\blk.cs.length<=(ι l).c/\∃ arr e,w.heap[(ι l).b]?=some (.cells arr e (0,0))/\arr.size=(ι l).c
 apart:∀ (l l':Nat) (blk blk':Blk),l≠l'->σ[l]?=some blk->σ[l']?=some blk'->blk.k= .own->blk'.k≠.dead->(ι l).b≠(ι l').b
 there:∀ (l:Nat) (blk:Blk),σ[l]?=some blk->blk.k≠.dead->(ι l).b<w.heap.size
structure Step (ι:AA) (σ:Ad) (w:World) (ι':AA) (σ':Ad) (w':World):Prop where
 keeps:Keeps ι σ ι' σ'
 kinds:∀ (l:Nat) (blk blk':Blk),σ[l]?=some blk->σ'[l]?=some blk'->blk'.k=blk.k\/(blk.k= .own/\blk'.k= .dead)
 fresh:∀ (l:Nat) (blk':Blk),σ.length<=l->σ'[l]?=some blk'->blk'.k≠.dead->blk'.k= .own/\(w.heap.size<=(ι' l).b\/∃ (l0:Nat) (blk0:Blk),σ[l0]?=some blk0/\blk0.k= .own/\(ι l0).b=(ι' l).b)
 frame:∀ b,b<w.heap.size->(∀ (l:Nat) (blk:Blk),σ[l]?=some blk->blk.k= .own->(ι l).b≠b)->w'.heap[b]?=w.heap[b]?
 size:w.heap.size<=w'.heap.size
 os:w'.os=w.os
 output:w'.output=w.output
 tape:w'.tape=w.tape
theorem Step.refl(ι:AA)(σ:Ad)(w:World):Step ι σ w ι σ w where
 keeps:=.refl ι σ
 kinds l blk blk' h h':=.inl (by rw[h] at h';cases h';rfl)
 fresh l blk' hl h:=by rw[BV hl] at h;cases h
 frame _ _ _:=rfl
 size:=BI _
 os:=rfl
 output:=rfl
 tape:=rfl
theorem Ce{σ:Ad}{l:Nat}{blk:Blk}(h:σ[l]?=some blk):l<σ.length:=by
 rcases BN l σ.length with h1|h1
 . exact h1
 . rw[BV h1] at h;cases h
theorem Pn{σ:Ad}{l:Nat}(h:l<σ.length):∃ blk,σ[l]?=some blk:=⟨_,Bf h⟩
theorem Step.trans{ι ι' ι'':AA}{σ σ' σ'':Ad}{w w' w'':World}(a:Step ι σ w ι' σ' w')(b:Step ι' σ' w' ι'' σ'' w''):Step ι σ w ι'' σ'' w'' where
 keeps:=a.keeps.trans b.keeps
 kinds l blk blk'' h h'':=by
  obtain⟨blk',h',_⟩:=a.keeps.width l blk h;rcases a.kinds l blk blk' h h' with e|⟨e1,e2⟩
  . rcases b.kinds l blk' blk'' h' h'' with f|⟨f1,f2⟩
    . exact .inl (f.trans e)
    . exact .inr ⟨e▸f1,f2⟩
  . rcases b.kinds l blk' blk'' h' h'' with f|⟨f1,f2⟩
    . exact .inr ⟨e1,f.trans e2⟩
    . rw[e2] at f1;cases f1
 fresh l blk'' hl h'' hd:=by
  by_cases hl':l<σ'.length
  . obtain⟨blk',h'⟩:=Pn hl';rcases b.kinds l blk' blk'' h' h'' with f|⟨f1,f2⟩
    . obtain⟨e1,e2⟩:=a.fresh l blk' hl h' (f▸hd);rw[b.keeps.place l blk' h'];exact⟨f.trans e1,e2⟩
    . exact absurd f2 hd
  . obtain⟨e1,e2⟩:=b.fresh l blk'' (by omega) h'' hd;refine⟨e1,?_⟩;rcases e2 with e2|⟨l0,blk0,h0,k0,p0⟩
    . exact .inl (JC a.size e2)
    . by_cases hl0:l0<σ.length
      . obtain⟨blk1,h1⟩:=Pn hl0;rcases a.kinds l0 blk1 blk0 h1 h0 with f|⟨_,f2⟩
        . exact .inr ⟨l0,blk1,h1,f▸k0,by rw[<- p0,a.keeps.place l0 blk1 h1]⟩
        . rw[f2] at k0;cases k0
      . obtain⟨_,g⟩:=a.fresh l0 blk0 (by omega) h0 (by rw[k0];decide);rcases g with g|⟨l1,blk1,h1,k1,p1⟩
        . exact .inl (p0▸g)
        . exact .inr ⟨l1,blk1,h1,k1,p1.trans p0⟩
 frame c hc hn:=by
  rw[b.frame c (KW hc a.size) ?_,a.frame c hc hn];intro l blk' h' k' e;by_cases hl:l<σ.length
  . obtain⟨blk,h⟩:=Pn hl;rcases a.kinds l blk blk' h h' with f|⟨_,f2⟩
    . exact hn l blk h (f▸k') (by rw[<- a.keeps.place l blk h];exact e)
    . rw[f2] at k';cases k'
  . obtain⟨_,g⟩:=a.fresh l blk' (by omega) h' (by rw[k'];decide);rcases g with g|⟨l1,blk1,h1,k1,p1⟩
    . omega
    . exact hn l1 blk1 h1 k1 (p1.trans e)
 size:=JC a.size b.size
 os:=b.os.trans a.os
 output:=b.output.trans a.output
 tape:=b.tape.trans a.tape
theorem Step.drew(ι:AA)(σ:Ad)(w:World):Step ι σ w ι σ w.drew:={ Step.refl ι σ w with }
theorem HRel.drew{ι:AA}{σ:Ad}{w:World}(h:HRel ι σ w):HRel ι σ w.drew:=⟨h.cells,h.own,h.apart,h.there⟩
abbrev Phm:=Nat->Option Blk
def My:Blk:=⟨.dead,0,[]⟩
def kill(Φ:Phm)(h:Ad):Ad:=h.mapIdx λ l b=>if (Φ l).isSome then My else b
def Has(Φ:Phm)(h:Ad):Prop:=∀ l b,Φ l=some b->h[l]?=some b
def Phm.no:Phm:=λ _=>none
theorem Gr(Φ:Phm)(h:Ad)(l:Nat):(kill Φ h)[l]?=(h[l]?).map λ b=>if (Φ l).isSome then My else b:=by
 simp[kill,cO]
theorem Ep(Φ:Phm)(h:Ad):(kill Φ h).length=h.length:=by simp[kill]
theorem PG{Φ:Phm}{h:Ad}{l:Nat}(e:Φ l=none):(kill Φ h)[l]?=h[l]?:=by
 rw[Gr,e];simp
theorem Se(h:Ad):kill Phm.no h=h:=by
 apply IG;intro l;exact PG rfl
theorem Has.no(h:Ad):Has Phm.no h:=λ _ _ e=>by cases e
theorem Has.lt{Φ:Phm}{h:Ad}(H:Has Φ h){l:Nat}{b:Blk}(e:Φ l=some b):l<h.length:=by
 have:=H l b e;rcases BN l h.length with h1|h1
 . exact h1
 . rw[BV h1] at this;cases this
theorem Has.top{Φ:Phm}{h:Ad}(H:Has Φ h):Φ h.length=none:=by
 cases e:Φ h.length with
 |none=>rfl
 |some b=>have:=H.lt e;omega
theorem M9{Φ:Phm}{h:Ad}(H:Has Φ h)(b:Blk):kill Φ (h++[b])=kill Φ h++[b]:=by
 apply IG;intro l;rw[Gr];rcases Nat.lt_trichotomy l h.length with hl|hl|hl
 . rw[Bx hl,Bx (by rw[Ep];exact hl),Gr]
 . subst hl;rw[Db (BI _),Db (by rw[Ep];exact BI _),H.top];simp[Ep]
 . rw[BV (by simp;omega),BV (by simp[Ep];omega)];rfl
theorem WM{Φ:Phm}{h:Ad}{l:Nat}(e:Φ l=none)(b:Blk):kill Φ (h.set l b)=(kill Φ h).set l b:=by
 apply IG;intro j;rw[Gr,G7,G7];by_cases hj:l=j
 . subst hj;simp only[AN,Ep,e];by_cases hl:l<h.length<;>simp[hl]
 . simp only[Ae hj,Gr]
theorem zX(Φ:Phm)(h:Ad)(n:Nat):kill Φ (h.take n)=(kill Φ h).take n:=by
 apply IG;intro j;rw[Gr,IJ,IJ];by_cases hj:j<n
 . simp only[Ac hj,Gr]
 . simp only[Ae hj];rfl
theorem Has.push{Φ:Phm}{h:Ad}(H:Has Φ h)(e:Ad):Has Φ (h++e):=λ l b hb=>by
 rw[Bx (H.lt hb)];exact H l b hb
theorem Has.set{Φ:Phm}{h:Ad}(H:Has Φ h){l:Nat}(e:Φ l=none)(b:Blk):Has Φ (h.set l b):=λ j c hc=>by
 rw[G7]
 split
 . rename_i hl;subst hl;rw[e] at hc;cases hc
 . exact H j c hc
def oO(Φ:Phm)(ι:AA)(σ:Ad)(w:World)(Q:V->Ad->Prop)(e:Ending)(w':World):Prop:=
 ∃ x r σ' ι',e= .returned x/\Q r σ'/\Has Φ σ'/\(∀ β,Rel ι' (kill Φ σ') β r x)/\HRel ι' (kill Φ σ') w'/\Step ι (kill Φ σ) w ι' (kill Φ σ') w'
def mf(ι:AA)(σ:Ad)(args:List V)(xs:List Value):Prop:=
 args.length=xs.length/\∀ (i:Nat) v x,args[i]?=some v->xs[i]?=some x->∀ β,Rel ι σ β v x
def W9:List String:=["strconv.ErrSyntax","internal/bytealg.MaxLen","internal/strconv.uint64pow10"]
def ZdD(nm:String)(cs:Array Value):Prop:=
 if nm= "strconv.ErrSyntax" then ∃ t p,cs=#[.iface t p] else if nm= "internal/bytealg.MaxLen" then ∃ m,cs[0]?=some (.int .i64 m)
 else cs=((List.range 20).map λ i=>Value.int .u64 ((10^i:Nat):Int)).toArray
def GlW(P:Program)(w:World):Prop:=∀ nm∈W9,∀ g,P.globalNamed nm=some g->∃ cs,w.var? P nm=some cs/\ZdD nm cs
def Gl(P:Program)(ι:AA)(σ:Ad)(w:World):Prop:=GlW P w/\∀ nm∈W9,∀ g,P.globalNamed nm=some g->∀ (l:Nat) (blk:Blk),σ[l]?=some blk->blk.k= .own->(ι l).b≠g
theorem zP{P:Program}{w:World}{nm:String}{g:Nat}{cs:Array Value}(hg:P.globalNamed nm=some g)(h:w.var? P nm=some cs):g<w.heap.size:=by
 simp only[World.var?,hg,JA] at h;rcases BN g w.heap.size with hlt|hge
 . exact hlt
 . rw[Array.getElem?_eq_none hge] at h;cases h
theorem Gl.step{P:Program}{ι ι':AA}{σ σ':Ad}{w w':World}(h:Gl P ι σ w)(s:Step ι σ w ι' σ' w'):Gl P ι' σ' w':=by
 have hlt:∀ nm∈W9,∀ g,P.globalNamed nm=some g->g<w.heap.size:=λ nm hn g hg=>by
  obtain⟨cs,hc,_⟩:=h.1 nm hn g hg;exact zP hg hc
 refine⟨λ nm hn g hg=>?_,λ nm hn g hg l blk hl hk=>?_⟩
 . obtain⟨cs,hc,hv⟩:=h.1 nm hn g hg;refine⟨cs,?_,hv⟩;rw[<- hc];simp only[World.var?,hg,JA];rw[s.frame g (hlt nm hn g hg) (h.2 nm hn g hg)]
 . by_cases hb:l<σ.length
   . obtain⟨blk0,h0⟩:=Pn hb;rw[s.keeps.place l blk0 h0];rcases s.kinds l blk0 blk h0 hl with e|⟨_,e⟩
     . exact h.2 nm hn g hg l blk0 h0 (e▸hk)
     . rw[e] at hk;cases hk
   . obtain⟨_,e⟩:=s.fresh l blk (by omega) hl (by rw[hk];decide);have:=hlt nm hn g hg;rcases e with e|⟨l0,blk0,h0,k0,p0⟩
     . omega
     . rw[<- p0];exact h.2 nm hn g hg l0 blk0 h0 k0
class GlC (P:Program) (ι:AA) (σ:Ad) (w:World):Prop where
 gl:Gl P ι σ w
theorem GlW.none{P:Program}(h:(W9.all λ nm=>(P.globalNamed nm).isNone)=true)(w:World):GlW P w:=λ nm hn g hg=>by
 have:=Dz.1 h nm hn
 rw[hg] at this;cases this
def Az(P:Program)(f:FuncId)(sem:Be):Prop:=
 ∀ (Φ:Phm) (ι:AA) (σ:Ad) (w:World) (args:List V) (xs:List Value) (Q:V->Ad->Prop),Has Φ σ->HRel ι (kill Φ σ) w->mf ι (kill Φ σ) args xs->sem args σ Q->Gl P ι (kill Φ σ) w ->
   Calls P f xs.toArray w (oO Φ ι σ w Q)
structure BRel (ι:AA) (σ:Ad) (β:Nat->Nat) (bx:List (List V)) (w0 w:World):Prop where
 cells:∀ (i:Nat) cs,bx[i]?=some cs->cs≠[]->∃ arr e,w.heap[β i]?=some (.cells arr e (0,0))/\arr.size=cs.length/\∀ (j:Nat) v,cs[j]?=some v->v.cell=true/\∃ x,arr[j]?=some x/\∀ β',Rel ι σ β' v x
 new:∀ (i:Nat) cs,bx[i]?=some cs->cs≠[]->w0.heap.size<=β i/\β i<w.heap.size
 apart:∀ (i j:Nat) cs cs',i≠j->bx[i]?=some cs->bx[j]?=some cs'->cs≠[]->cs'≠[]->β i≠β j
 heap:∀ (i:Nat) cs (l:Nat) (blk:Blk),bx[i]?=some cs->cs≠[]->σ[l]?=some blk->blk.k≠.dead->(ι l).b≠β i
def SRel(ι:AA)(σ:Ad)(β:Nat->Nat)(sl:List V)(tmps:Array Value):Prop:=
 sl.length<=tmps.size/\∀ i,Rel ι σ β (get sl i) (tmps.getD i Go.undef)
def C4(ι0:AA)(σ0:Ad)(w0:World)(Φ:Phm)(st:St)(a:Act)(w:World):Prop:=
 a.defers=[]/\Has Φ st.hp/\∃ ι β,HRel ι (kill Φ st.hp) w/\BRel ι (kill Φ st.hp) β st.bx w0 w/\SRel ι (kill Φ st.hp) β st.sl a.tmps/\Step ι0 σ0 w0 ι (kill Φ st.hp) w
theorem xa(s:List V)(n:Nat)(v:V)(h:n<s.length):get (put s n v) n=v:=by
 induction s generalizing n with
 |nil=>simp at h
 | cons x r ih=>cases n with
   |zero=>rfl
   |succ n=>exact ih n (by simpa using h)
theorem gI(s:List V)(n m:Nat)(v:V)(h:m≠n):get (put s n v) m=get s m:=by
 induction s generalizing n m with
 |nil=>rfl
 | cons x r ih=>cases n with
   | zero=>cases m with
     |zero=>exact absurd rfl h
     |succ m=>rfl
   | succ n=>cases m with
     |zero=>rfl
     |succ m=>exact ih n m (by omega)
theorem ZcQ(s:List V)(n:Nat)(h:s.length<=n):get s n= .undef:=by
 induction s generalizing n with
 |nil=>rfl
 | cons x r ih=>cases n with
   |zero=>simp at h
   |succ n=>exact ih n (by simpa using h)
@[simp] theorem Zer (s:List V) (n:Nat) (v:V):(put s n v).length=s.length:=by
 induction s generalizing n with
 |nil=>rfl
 | cons x r ih=>cases n with
   |zero=>rfl
   |succ n=>simp[put,ih]
theorem RY(s:List (List V))(n:Nat):AW s n=s[n]?.getD []:=by
 induction s generalizing n with
 |nil=>rfl
 | cons x r ih=>cases n with
   |zero=>rfl
   |succ n=>simp[AW,ih]
@[simp] theorem Zeo (s:List (List V)) (n:Nat) (v:List V):(Dr s n v).length=s.length:=by
 induction s generalizing n with
 |nil=>rfl
 | cons x r ih=>cases n with
   |zero=>rfl
   |succ n=>simp[Dr,ih]
theorem Wz(s:List (List V))(n m:Nat)(v:List V):(Dr s n v)[m]?=if m=n/\n<s.length then some v else s[m]?:=by
 induction s generalizing n m with
 |nil=>simp[Dr]
 | cons x r ih=>cases n with
   |zero=>cases m<;>simp[Dr]
   | succ n=>cases m with
     |zero=>simp[Dr]
     |succ m=>simp[Dr,ih]
@[simp] theorem Zem (i:Nat) (s:List V):(clearBox i s).length=s.length:=by
 induction s with
 |nil=>rfl
 |cons x r ih=>simp[clearBox,ih]
theorem iy(i:Nat)(s:List V)(n:Nat):get (clearBox i s) n=if (get s n).isBox i then .undef else get s n:=by
 induction s generalizing n with
 |nil=>simp[clearBox,get,V.isBox]
 | cons x r ih=>cases n with
   |zero=>rfl
   |succ n=>exact ih n
@[simp] theorem Zep (live:List Nat) (k:Nat) (s:List V):(keep live k s).length=s.length:=by
 induction s generalizing k with
 |nil=>rfl
 |cons x r ih=>simp[keep,ih]
theorem Zba(live:List Nat)(k:Nat)(s:List V)(n:Nat):get (keep live k s) n= .undef\/get (keep live k s) n=get s n:=by
 induction s generalizing k n with
 |nil=>exact .inl rfl
 | cons x r ih=>cases n with
   |zero=>simp only[keep,get];split<;>simp
   |succ n=>exact ih (k+1) n
theorem GZ:∀ (cs:List V) (o:Nat) (vs:List V),(splice cs o vs).length=cs.length
 |cs,0,[]=>by cases cs<;>rfl
 |[],0,_::_=>rfl
 |_::r,0,v::vs=>by simp[splice,GZ r 0 vs]
 |[],_+1,_=>rfl
 |c::r,n+1,vs=>by simp[splice,GZ r n vs]
theorem V6:∀ (cs:List V) (o:Nat) (vs:List V) (j:Nat),o+vs.length<=cs.length->(splice cs o vs)[j]?=if o<=j/\j<o+vs.length then vs[j-o]? else cs[j]?
 |cs,0,[],j,_=>by cases cs<;>simp[splice]
 |[],0,_::_,j,h=>by simp at h
 | _ :: r,0,v::vs,j,h=>by
   cases j with
   |zero=>simp[splice]
   | succ j=>
     have:=V6 r 0 vs j (by simp at h ⊢;omega)
     simp[splice,this]
 |[],n+1,vs,j,h=>by simp at h
 | c :: r,n+1,vs,j,h=>by
   cases j with
   |zero=>simp[splice]
   | succ j=>
     have:=V6 r n vs j (by simp at h ⊢;omega)
     simp only[splice,Sm,this]
     by_cases hj:n<=j/\j<n+vs.length
     . rw[Ac hj,Ac (by omega)]
       congr 1;omega
     . rw[Ae hj,Ae (by omega)]
theorem ZbZ{h:Ad}{l o n:Nat}{cs:List V}(e:rd h l o n=some cs):∃ b,h[l]?=some b/\b.k≠.dead/\o+n<=b.cs.length/\cs=(b.cs.drop o).take n:=by
 unfold rd at e
 cases hb:h[l]? with
 |none=>simp[hb] at e
 | some b=>
   simp only[hb] at e;split at e
   . rename_i hc;exact⟨b,rfl,hc.1,hc.2,(C9 e).symm⟩
   . cases e
theorem Rc{α:Type}{cs:List α}{o n:Nat}(h:o+n<=cs.length):((cs.drop o).take n).length=n:=by
 simp;omega
theorem Fu{α:Type}{cs:List α}{o n j:Nat}{v:α}(e:((cs.drop o).take n)[j]?=some v):j<n/\cs[o+j]?=some v:=by
 rw[IJ] at e;split at e
 . rename_i hj;exact⟨hj,by simpa using e⟩
 . cases e
section
variable {ι:AA} {σ:Ad} {β:Nat->Nat}
theorem Rel.cells{v:V}{x:Value}(h:Rel ι σ β v x)(hk:v.cells.all V.cell=true) :
 x.cells.size=v.cells.length/\∀ (i:Nat) u,v.cells[i]?=some u->u.cell=true/\∃ y,x.cells[i]?=some y/\∀ β',Rel ι σ β' u y:=by
 have one:∀ {v:V} {x:Value},Rel ι σ β v x->v.cell=true->v.cells=[v]->x.cells=#[x] ->
  x.cells.size=v.cells.length/\∀ (i:Nat) u,v.cells[i]?=some u->u.cell=true/\∃ y,x.cells[i]?=some y/\∀ β',Rel ι σ β' u y:=by
  intro v x h hc e1 e2
  rw[e1,e2]
  refine⟨rfl,λ i u hu=>?_⟩
  cases i with
  |zero=>simp at hu;subst hu;exact⟨hc,x,rfl,λ β'=>h.cellMono (.refl _ _) hc⟩
  |succ i=>simp at hu
 cases h with
 |undef x=>simp[V.cells,V.cell] at hk
 |bool b=>exact one (.bool b) rfl rfl rfl
 |int k n=>exact one (.int k n) rfl rfl rfl
 |str s=>exact one (.str s) rfl rfl rfl
 |nils a=>exact one (.nils a) rfl rfl rfl
 |slice l o n c blk h hn hc hw=>exact one (.slice l o n c blk h hn hc hw) rfl rfl rfl
 |sliceEnd l o blk h a hw=>exact one (.sliceEnd l o blk h a hw) rfl rfl rfl
 |box i o=>simp[V.cells,V.cell] at hk
 |ptr l o blk h hw=>exact one (.ptr l o blk h hw) rfl rfl rfl
 |nilIfc=>exact one .nilIfc rfl rfl rfl
 |ifc t v=>exact one (.ifc t v) rfl rfl rfl
 | agg cs ws hl hc h=>
   refine⟨by simp[V.cells,Value.cells,hl],λ i u hu=>?_⟩;have hu':cs[i]?=some u:=hu
   have hi:i<ws.length:=by rw[<- hl];exact(List.getElem?_eq_some_iff.1 hu').1
   have hw:ws[i]?=some ws[i]:=Bf hi;have huc:=hc u (HG hu');exact⟨huc,ws[i],by simp[Value.cells],λ β'=>(h i u _ hu' hw).cellMono (.refl _ _) huc⟩
 |tup cs ws hl hc h=>simp[V.cells,V.cell] at hk
theorem E5{k:IntKind}{n:Int}{x:Value}(h:Rel ι σ β (.int k n) x):x= .int k n:=by cases h;rfl
theorem Pp{b:Bool}{x:Value}(h:Rel ι σ β (.bool b) x):x= .bool b:=by cases h;rfl
theorem PK{s:List UInt8}{x:Value}(h:Rel ι σ β (.str s) x):x= .string ⟨s.toArray⟩:=by cases h;rfl
theorem Py{x:Value}(h:Rel ι σ β .nils x):∃ a,x= .slice a 0 0:=by cases h;exact⟨_,rfl⟩
theorem RZ{i o:Nat}{x:Value}(h:Rel ι σ β (.box i o) x):x= .pointer (some ⟨β i,o,none⟩):=by cases h;rfl
theorem IB{l o:Nat}{x:Value}(h:Rel ι σ β (.ptr l o) x):(∃ blk,σ[l]?=some blk)/\x= .pointer (some ⟨(ι l).b,(ι l).o+o,none⟩):=by cases h;exact⟨⟨_,‹_›⟩,rfl⟩
theorem G1{l o n:Nat}{x:Value}(h:Rel ι σ β (.slice l o n) x):∃ blk,σ[l]?=some blk /\
 ((∃ c,x= .slice (some ⟨(ι l).b,(ι l).o+o,none⟩) n c/\n<=c/\o+c*blk.w<=(ι l).c)\/(n=0/\∃ a,x= .slice a 0 0)):=by
 cases h with
 |slice l o n c blk h hn hc hw=>exact⟨blk,h,.inl ⟨c,rfl,hn,hc⟩⟩
 |sliceEnd l o blk h a hw=>exact⟨blk,h,.inr ⟨rfl,a,rfl⟩⟩
theorem LI{l o n:Nat}{x:Value}(h:Rel ι σ β (.slice l o n) x){blk:Blk}(hb:σ[l]?=some blk):0<blk.w:=by
 cases h with
 |slice l o n c b h hn hc hw=>rw[hb] at h;cases h;exact hw
 |sliceEnd l o b h a hw=>rw[hb] at h;cases h;exact hw
theorem Wn{l o:Nat}{x:Value}(h:Rel ι σ β (.ptr l o) x){blk:Blk}(hb:σ[l]?=some blk):0<blk.w:=by
 cases h with
 |ptr l o b h hw=>rw[hb] at h;cases h;exact hw
theorem cd{cs:List V}{x:Value}(h:Rel ι σ β (.agg cs) x):∃ ws:List Value,x= .agg ws.toArray/\cs.length=ws.length/\(∀ v,v∈cs->v.cell=true)/\∀ (i:Nat) v w,cs[i]?=some v->ws[i]?=some w->Rel ι σ β v w:=by
 cases h;exact⟨_,rfl,‹_›,‹_›,‹_›⟩
theorem mx{cs:List V}{x:Value}(h:Rel ι σ β (.tup cs) x):∃ ws:List Value,x= .tuple ws.toArray/\cs.length=ws.length/\(∀ v,v∈cs->v.ok1=true)/\∀ (i:Nat) v w,cs[i]?=some v->ws[i]?=some w->Rel ι σ β v w:=by
 cases h;exact⟨_,rfl,‹_›,‹_›,‹_›⟩
theorem Wr {n:Option Nat} {cs:List V} {v:V} {ws:List Value} (e:Dp n cs=some v) (hl:cs.length=ws.length) (hk:∀ v,v∈cs->v.cell=true)
 (h:∀ (i:Nat) v w,cs[i]?=some v->ws[i]?=some w->Rel ι σ β v w):(n.isSome=true/\Rel ι σ β v (.agg ws.toArray))\/(n=none/\∃ x,ws=[x]/\Rel ι σ β v x):=by
 cases n with
 |some m=>simp[Dp] at e;subst e;exact .inl ⟨rfl,.agg cs ws hl hk h⟩
 | none=>
   match cs,ws,hl with
   |[c],[x],_=>simp[Dp] at e;subst e;exact .inr ⟨rfl,x,rfl,h 0 c x rfl rfl⟩
   |[],[],_=>simp[Dp] at e
   |_::_::_,_,_=>simp[Dp] at e
end
def LX:Value->V->Bool
 |.bool a,.bool b=>a == b
 |.int k a,.int k' b=>k == k'&&a == b
 |.string s,.str t=>s.data.toList == t
 |.slice none 0 0,.nils=>true
 |.nilIface,.ifc true=>true
 |_,_=>false
def Ay:Operand->Opnd->Bool
 |.tmp a,.t b=>a == b
 |.const _,.c .undef=>true
 |.const v,.c u=>LX v u
 |_,_=>false
def NL:List Operand->List Opnd->Bool
 |[],[]=>true
 |x::r,y::s=>Ay x y&&NL r s
 |_,_=>false
def Gt:List Value->List V->Bool
 |[],[]=>true
 |x::r,y::s=>LX x y&&Gt r s
 |_,_=>false
theorem ZF{x:Value}{v:V}(h:LX x v=true)(ι:AA)(σ:Ad)(β:Nat->Nat):Rel ι σ β v x:=by
 unfold LX at h;split at h
 . simp at h;subst h;exact .bool _
 . simp at h;obtain⟨rfl,rfl⟩:=h;exact .int _ _
 . rename_i s t;simp at h;subst h;exact .str _
 . exact .nils _
 . exact .nilIfc
 . cases h
theorem iw{x:Value}{v:V}(h:LX x v=true):v.cell=true:=by
 unfold LX at h
 split at h<;>first|rfl|cases h
theorem BB{x:Operand}{y:Opnd}(h:Ay x y=true){ι:AA}{σ:Ad}{β:Nat->Nat}{sl:List V}{a:Act}(hs:SRel ι σ β sl a.tmps):Rel ι σ β (y.ev sl) (a.eval x):=by
 unfold Ay at h;split at h
 . simp at h;subst h;exact hs.2 _
 . exact .undef _
 . exact ZF h _ _ _
 . cases h
theorem Ru{xs:List Value}{vs:List V}(h:Gt xs vs=true):vs.length=xs.length:=by
 induction xs generalizing vs with
 | nil=>cases vs with
   |nil=>rfl
   |cons=>simp[Gt] at h
 | cons x r ih=>cases vs with
   |nil=>simp[Gt] at h
   |cons y s=>simp[Gt] at h;simp[ih h.2]
theorem iU{xs:List Value}{vs:List V}(h:Gt xs vs=true)(i:Nat)(v:V)(hv:vs[i]?=some v):∃ x,xs[i]?=some x/\LX x v=true:=by
 induction xs generalizing vs i with
 | nil=>cases vs with
   |nil=>simp at hv
   |cons=>simp[Gt] at h
 | cons x r ih=>cases vs with
   |nil=>simp at hv
   | cons y s=>
     simp[Gt] at h
     cases i with
     |zero=>simp at hv;subst hv;exact⟨x,rfl,h.1⟩
     |succ i=>simpa using ih h.2 i hv
section
variable {P:Program} {w:World}
theorem C8{t:TypeId}{d:TypeDesc}(h:P.underlying t=some d):(underlying t).run P w= .ok d w:=by simp[underlying,h]
theorem cQ{t:TypeId}{i:TypeInfo}(h:P.info? t=some i):(typeInfo t).run P w= .ok i w:=by simp[typeInfo,h]
theorem F6{t:TypeId}{i:TypeInfo}(h:P.info? t=some i):(sizeOf t).run P w= .ok i.size w:=by simp[sizeOf,cQ h]
theorem Sq{t:TypeId}{i:TypeInfo}{z:Value}(h:P.info? t=some i)(hz:i.zero=some z):(zeroValue t).run P w= .ok z w:=by simp[zeroValue,cQ h,hz]
def XJ:TypeDesc->Bool
 |.struct _|.array _ _=>true
 |_=>false
theorem LW{t:TypeId}{d:TypeDesc}(h:P.underlying t=some d):(isAgg t).run P w= .ok (XJ d) w:=by
 simp only[isAgg,D2,C8 h,Dk];cases d<;>rfl
end
def HM(P:Program)(t:TypeId)(n:Option Nat):Bool:=
 match P.underlying t,P.info? t with
 |some d,some i=>(match n with|some m=>XJ d&&i.size == m|none=>!XJ d&&i.size == 1)
 |_,_=>false
theorem Wb{P:Program}{t:TypeId}{n:Option Nat}(h:HM P t n=true):∃ d i,P.underlying t=some d/\P.info? t=some i/\XJ d=n.isSome/\i.size=n.getD 1:=by
 unfold HM at h;split at h
 . rename_i d i hd hi;refine⟨d,i,hd,hi,?_⟩
   cases n with
   |some m=>simp at h;exact⟨h.1,h.2⟩
   |none=>simp at h;exact⟨h.1,h.2⟩
 . cases h
def IL(P:Program)(t:TypeId)(w:Nat):Bool:=
 match P.underlying t with
 |some (.slice e)=>(match P.info? e with|some i=>(match i.zero with|some z=>i.size == w&&i.bytes<=128&&z.cells.size == w|none=>false)|none=>false)
 |_=>false
theorem VW{P:Program}{t:TypeId}{w:Nat}(h:IL P t w=true):∃ e i z,P.underlying t=some (.slice e)/\P.info? e=some i/\i.size=w/\i.bytes<=128/\i.zero=some z/\z.cells.size=w:=by
 unfold IL at h;split at h
 . rename_i e he;split at h
   . rename_i i hi;split at h
     . rename_i z hz;simp at h;exact⟨e,i,z,he,hi,h.1.1,h.1.2,hz,h.2⟩
     . cases h
   . cases h
 . cases h
def L0(P:Program)(t:TypeId)(f off:Nat)(n:Option Nat):Bool:=
 match P.underlying t with
 |some (.struct fs)=>(match fs[f]? with|some g=>g.offset == off&&HM P g.type n&&n != some 0|none=>false)
 |_=>false
theorem iz{P:Program}{t:TypeId}{f off:Nat}{n:Option Nat}(h:L0 P t f off n=true) :
 ∃ (fs:Array Field) (g:Field),P.underlying t=some (.struct fs)/\fs[f]?=some g/\g.offset=off/\HM P g.type n=true/\n≠some 0:=by
 unfold L0 at h
 split at h
 . rename_i fs hf
   split at h
   . rename_i g hg;simp at h;exact⟨fs,g,hf,hg,h.1.1,h.1.2,h.2⟩
   . cases h
 . cases h
theorem yL{P:Program}{w:World}{v:V}{op:BinOp}{k:IntKind}{m n:Int}{t:TypeId}(hop:op≠.shl/\op≠.shr)(e:JG op k m n=some v):∃ x,(binOp op t (.int k m) (.int k n)).run P w= .ok x w/\∀ ι σ β,Rel ι σ β v x:=by
 cases op
 case shl=>exact absurd rfl hop.1
 case shr=>exact absurd rfl hop.2
 case quo=>
  by_cases hn:n=0
  . simp[JG,hn] at e
  . simp only[JG,Ae hn] at e;cases e;exact⟨.int k (k.wrap (m.tdiv n)),by simp[binOp,Op.intDiv,hn],λ _ _ _=>.int _ _⟩
 case rem=>
  by_cases hn:n=0
  . simp[JG,hn] at e
  . simp only[JG,Ae hn] at e;cases e;exact⟨.int k (m.tmod n),by simp[binOp,Op.intDiv,hn],λ _ _ _=>.int _ _⟩
 all_goals cases e
 case and=>exact⟨.int k (k.wrap (BitVec.ofInt k.bits m &&& BitVec.ofInt k.bits n).toNat),by simp only[binOp,HB,PH,AQ];rfl,λ _ _ _=>.int _ _⟩
 case or=>exact⟨.int k (k.wrap (BitVec.ofInt k.bits m ||| BitVec.ofInt k.bits n).toNat),by simp only[binOp,HB,PH,AQ];rfl,λ _ _ _=>.int _ _⟩
 case xor=>exact⟨.int k (k.wrap (BitVec.ofInt k.bits m ^^^ BitVec.ofInt k.bits n).toNat),by simp only[binOp,HB,PH,AQ];rfl,λ _ _ _=>.int _ _⟩
 case andNot=>exact⟨.int k (k.wrap (BitVec.ofInt k.bits m &&& ~~~BitVec.ofInt k.bits n).toNat),by simp only[binOp,HB,PH,AQ];rfl,λ _ _ _=>.int _ _⟩
 all_goals first
  |exact⟨_,by simp only[binOp,HB,PH,AQ];rfl,λ _ _ _=>.int _ _⟩
  |exact⟨_,by simp only[binOp,HB,PH,AQ];rfl,λ _ _ _=>.bool _⟩
theorem gu{P:Program}{w:World}{t:TypeId}{x y:Bool}(h:P.underlying t=some .bool):(Op.equal t (.bool x) (.bool y)).run P w= .ok (x == y) w:=by
 unfold Op.equal Op.maxDepth;exact run_equalIn_bool' w 9999 t x y h
theorem Zcx{y:Operand}(h:Ay y (.c (.ifc true))=true):y= .const .nilIface:=by
 cases y with
 |const v=>cases v<;>first|rfl|simp[Ay,LX] at h
 |tmp t=>simp[Ay] at h
 |global g=>simp[Ay] at h
 |func f=>simp[Ay] at h
theorem Zcf{ι:AA}{σ:Ad}{β:Nat->Nat}{p:Bool}{x:Value}(h:Rel ι σ β (.ifc p) x):(p=true/\x= .nilIface)\/(p=false/\∃ t u,x= .iface t u):=by
 cases h
 . exact .inl ⟨rfl,rfl⟩
 . exact .inr ⟨rfl,_,_,rfl⟩
theorem Rw{P:Program}{w:World}{o:Oper}{a:Act}{c:Call}{b:Builtin}(ho:o.op= .call c)(hc:c.callee= .builtin b) :
 (execOp a.eval o).run P w=(builtin b c.argTypes o.type (c.args.map fun|.const _=>true|_=>false) (c.args.map a.eval)).run P w:=by
 simp only[execOp,ho,resolve,hc]
 rfl
def Out(P:Program)(o:Oper)(a:Act)(ι0:AA)(σ0:Ad)(w0 w:World)(sl:List V)(v:V)(bx:List (List V))(hp:Ad):Prop:=
 ∃ nx x w' ι' β',(execOp a.eval o).run P w= .ok nx w'/\(nx= .value x\/(nx= .skip/\x=Go.undef))/\HRel ι' hp w'/\BRel ι' hp β' bx w0 w' /\
   SRel ι' hp β' sl a.tmps/\Rel ι' hp β' v x/\Step ι0 σ0 w0 ι' hp w'
section
variable {P:Program} {o:Oper} {a:Act} {ι:AA} {β:Nat->Nat} {st:St} {w0 w:World} {v:V} {bx:List (List V)} {hp:Ad}
 (H:HRel ι st.hp w) (B:BRel ι st.hp β st.bx w0 w) (S:SRel ι st.hp β st.sl a.tmps) {ι0:AA} {σ0:Ad} (T:Step ι0 σ0 w0 ι st.hp w)
include H B S T
theorem Out.pure{x:Value}(hr:(execOp a.eval o).run P w= .ok (.value x) w)(hx:Rel ι st.hp β v x)(e:some (v,st.bx,st.hp)=some (v,bx,hp)):Out P o a ι0 σ0 w0 w st.sl v bx hp:=by
 cases e;exact⟨_,x,w,ι,β,hr,.inl rfl,H,B,S,hx,T⟩
theorem ov{x:Operand}{y:Opnd}(ho:o.op= .move x\/o.op= .assign x)(hk:Ay x y=true)(e:Af (.mv y) st=some (v,bx,hp)):Out P o a ι0 σ0 w0 w st.sl v bx hp:=by
 simp[Af] at e;obtain⟨rfl,rfl,rfl⟩:=e;refine Out.pure H B S T (x:=a.eval x) ?_ (BB hk S) rfl;rcases ho with ho|ho<;>simp[execOp,ho]
theorem Zbj{x:Operand}{y:Opnd}(ho:o.op= .nilCheck x)(hk:Ay x y=true)(e:Af (.nilck y) st=some (v,bx,hp)):Out P o a ι0 σ0 w0 w st.sl v bx hp:=by
 have hx:=BB hk S;simp only[Af] at e;split at e
 . rename_i i q hq;rw[hq] at hx;have:=RZ hx;cases e;exact Out.pure H B S T (x:=a.eval x) (by simp[execOp,ho,this]) hx rfl
 . rename_i i q hq;rw[hq] at hx;have:=(IB hx).2;cases e;exact Out.pure H B S T (x:=a.eval x) (by simp[execOp,ho,this]) hx rfl
 . cases e
theorem Zco{c x y:Operand}{c' x' y':Opnd}(ho:o.op= .pick c x y)(hc:Ay c c'=true)(hx:Ay x x'=true)(hy:Ay y y'=true)(e:Af (.pick c' x' y') st=some (v,bx,hp)):Out P o a ι0 σ0 w0 w st.sl v bx hp:=by
 have rc:=BB hc S;simp only[Af] at e;split at e
 . rename_i t ht;rw[ht] at rc;have ec:=Pp rc;cases e;refine Out.pure H B S T (x:=if t then a.eval x else a.eval y) (by simp[execOp,ho,ec,asBool]) ?_ rfl;cases t
   . exact BB hy S
   . exact BB hx S
 . cases e
theorem ZdU{x:Operand}{x':Opnd}{op:UnOp}{t:TypeId}(ho:o.op= .unOp op t x)(hk:Ay x x'=true)(e:Af (.un op x') st=some (v,bx,hp)):Out P o a ι0 σ0 w0 w st.sl v bx hp:=by
 have hx:=BB hk S;simp only[Af,Mt] at e;split at e
 . rename_i b hb;rw[hb] at hx;have:=Pp hx;simp at e;obtain⟨rfl,rfl,rfl⟩:=e;exact Out.pure H B S T (x:=.bool (!b)) (by simp[execOp,ho,this,Op.unary]) (.bool _) rfl
 . rename_i k n hb;rw[hb] at hx;have:=E5 hx;simp at e;obtain⟨rfl,rfl,rfl⟩:=e;exact Out.pure H B S T (x:=.int k (k.wrap (0-n))) (by simp[execOp,ho,this,Op.unary,Op.intArith]) (by simpa using Rel.int k (k.wrap (0-n))) rfl
 . simp at e
theorem Zc7{op:BinOp}{t u:TypeId}{x y:Operand}{x' y':Opnd}(ho:o.op= .binOp op t x y u)(hx:Ay x x'=true)(hy:Ay y y'=true)(e:Af (.bin op x' y') st=some (v,bx,hp)):Out P o a ι0 σ0 w0 w st.sl v bx hp:=by
 have rx:=BB hx S;have ry:=BB hy S;simp only[Af,B9] at e;obtain⟨r,e1,e2⟩:=e;cases e2
 suffices h:∃ z,(execOp a.eval o).run P w= .ok (.value z) w/\Rel ι st.hp β v z by
  obtain⟨z,h1,h2⟩:=h;exact Out.pure H B S T h1 h2 rfl
 unfold IP at e1;split at e1
 . rename_i k m k' n hxe hye;rw[hxe] at rx;rw[hye] at ry;have ex:=E5 rx;have ey:=E5 ry
   have go:∀ z,(binOp op t (.int k m) (.int k' n)).run P w= .ok z w->(∀ ι σ β,Rel ι σ β v z)->∃ z,(execOp a.eval o).run P w= .ok (.value z) w/\Rel ι st.hp β v z:=by
    intro z h1 h2;refine⟨z,?_,h2 _ _ _⟩
    have hg:(eqGuard op t x y (.int k m) (.int k' n)).run P w= .ok () w:=by
     unfold eqGuard;cases op<;>rfl
    simp only[execOp,ho,ex,ey,D2,hg,h1,Dk];rfl
   have sh:∀ (hop:op= .shl\/op= .shr),Nd op k m n=some v->∃ z,(execOp a.eval o).run P w= .ok (.value z) w/\Rel ι st.hp β v z:=by
    intro hop e1;unfold Nd at e1;split at e1
    . cases e1
    . rename_i hn;rcases hop with rfl|rfl
      . cases e1
        exact go (.int k (k.wrap (m*2^min n.toNat k.bits))) (by simp[binOp,Op.shift,hn]) λ _ _ _=>.int _ _
      . cases e1
        exact go (.int k (m.fdiv (2^min n.toNat k.bits))) (by simp[binOp,Op.shift,hn]) λ _ _ _=>.int _ _
   split at e1
   . exact sh (.inl rfl) e1
   . exact sh (.inr rfl) e1
   . rename_i h1 h2;by_cases hk:k=k'
     . subst hk;simp only[AN] at e1;obtain⟨z,g1,g2⟩:=yL (P:=P) (w:=w) (t:=t) ⟨h1,h2⟩ e1;exact go z g1 g2
     . simp[hk] at e1
 . rename_i s1 s2 hxe hye;rw[hxe] at rx;rw[hye] at ry;have ex:=PK rx;have ey:=PK ry
   have hg:(eqGuard op t x y (.string ⟨s1.toArray⟩) (.string ⟨s2.toArray⟩)).run P w= .ok () w:=by
    unfold eqGuard;cases op<;>rfl
   have go:∀ z,(Op.stringOp op ⟨s1.toArray⟩ ⟨s2.toArray⟩).run P w= .ok z w->Rel ι st.hp β v z->∃ z,(execOp a.eval o).run P w= .ok (.value z) w/\Rel ι st.hp β v z:=by
    intro z h1 h2;refine⟨z,?_,h2⟩
    have hb:binOp op t (.string ⟨s1.toArray⟩) (.string ⟨s2.toArray⟩)=Op.stringOp op ⟨s1.toArray⟩ ⟨s2.toArray⟩:=by simp[binOp]
    simp only[execOp,ho,ex,ey,D2,hg,hb,h1,Dk];rfl
   split at e1
   . split at e1
     . rename_i hl;cases e1;refine go (.string ⟨(s1++s2).toArray⟩) ?_ (.str _);rw[run_string_add_sum w _ _ (by simpa [ByteArray.size] using hl),ByteArray.mk_append_mk]
     . cases e1
   . cases e1;exact go (.bool (s1 == s2)) (by simp[Op.stringOp]) (.bool _)
   . cases e1;exact go (.bool (!(s1 == s2))) (by simp[Op.stringOp]) (.bool _)
   . cases e1
 . cases e1
theorem Zc4 {op:BinOp} {t u:TypeId} {neg:Bool} {x y:Operand} {x' y':Opnd} (ho:o.op= .binOp op t x y u) (hop:op=if neg then .neq else .eql) (ht:P.underlying t=some .bool)
 (hx:Ay x x'=true) (hy:Ay y y'=true) (e:Af (.eqB neg x' y') st=some (v,bx,hp)):Out P o a ι0 σ0 w0 w st.sl v bx hp:=by
 have rx:=BB hx S
 have ry:=BB hy S
 simp only[Af] at e
 split at e
 . rename_i p q hxe hye
   rw[hxe] at rx;rw[hye] at ry;have ex:=Pp rx;have ey:=Pp ry;cases e;refine Out.pure H B S T (x:=.bool (if neg=true then !(p == q) else p == q)) ?_ (.bool _) rfl
   have hg:(eqGuard op t x y (.bool p) (.bool q)).run P w= .ok () w:=by unfold eqGuard;cases op<;>rfl
   simp only[execOp,ho,ex,ey,D2,hg,Dk];cases neg
   . simp only[AL,AQ] at hop;subst hop;simp[binOp,gu ht]
   . simp only[AN] at hop;subst hop;simp[binOp,gu ht]
 . cases e
theorem Zc3 {op:BinOp} {t u:TypeId} {neg:Bool} {x y:Operand} {x' y':Opnd} {ms:Array (String×TypeId)} (ho:o.op= .binOp op t x y u) (hop:op=if neg then .neq else .eql) (ht:P.underlying t=some (.interface ms))
 (hx:Ay x x'=true) (hy:Ay y y'=true) (e:Af (.eqN neg x' y') st=some (v,bx,hp)):Out P o a ι0 σ0 w0 w st.sl v bx hp:=by
 have rx:=BB hx S
 simp only[Af] at e
 split at e
 . rename_i p hxe
   rw[hxe] at rx;cases e;have ey:=Zcx hy;subst ey;refine Out.pure H B S T (x:=.bool (if neg=true then !p else p)) ?_ (.bool _) rfl;have ee:a.eval (.const .nilIface)= .nilIface:=rfl;rcases Zcf rx with⟨rfl,ex⟩|⟨rfl,tt,vv,ex⟩
   . have hg:(eqGuard op t x (.const .nilIface) .nilIface .nilIface).run P w= .ok () w:=by unfold eqGuard;cases op<;>simp
     have hq:(Op.equal t .nilIface .nilIface).run P w= .ok true w:=by unfold Op.equal Op.maxDepth Op.equalIn;simp[C8 ht]
     simp only[execOp,ho,ex,ee,D2,hg,Dk];cases neg
     . simp only[AL,AQ] at hop;subst hop;simp[binOp,hq]
     . simp only[AN] at hop;subst hop;simp[binOp,hq]
   . have hg:(eqGuard op t x (.const .nilIface) (.iface tt vv) .nilIface).run P w= .ok () w:=by unfold eqGuard;cases op<;>simp
     have hq:(Op.equal t (.iface tt vv) .nilIface).run P w= .ok false w:=by unfold Op.equal Op.maxDepth Op.equalIn;simp[C8 ht]
     simp only[execOp,ho,ex,ee,D2,hg,Dk];cases neg
     . simp only[AL,AQ] at hop;subst hop;simp[binOp,hq]
     . simp only[AN] at hop;subst hop;simp[binOp,hq]
 . cases e
theorem Zb3 {s d:TypeId} {k:IntKind} {x:Operand} {x':Opnd} (ho:o.op= .convert s d x) (hs:(P.underlying s).isSome=true) (hd:P.underlying d=some (.int k)) (hx:Ay x x'=true)
 (e:Af (.conv k x') st=some (v,bx,hp)):Out P o a ι0 σ0 w0 w st.sl v bx hp:=by
 have rx:=BB hx S
 obtain⟨ds,hs⟩:=Option.isSome_iff_exists.1 hs
 simp only[Af] at e
 split at e
 . rename_i k' n hxe
   rw[hxe] at rx;have ex:=E5 rx;cases e;exact Out.pure H B S T (x:=.int k (k.wrap n)) (by simp[execOp,ho,ex,convert,C8 hs,C8 hd,Conv.intToInt]) (.int _ _) rfl
 . cases e
theorem ZbO {c:Call} {t tt:TypeId} {x:Operand} {x':Opnd} (ho:o.op= .call c) (hc:c.callee= .builtin .len) (hargs:c.args=#[x]) (hts:c.argTypes=#[t]) (ht:P.underlying t=some (.slice tt))
 (hx:Ay x x'=true) (e:Af (.len x') st=some (v,bx,hp)):Out P o a ι0 σ0 w0 w st.sl v bx hp:=by
 have rx:=BB hx S
 have go:∀ (b:Option Addr) (n c':Nat),a.eval x= .slice b n c'->(execOp a.eval o).run P w= .ok (.value (.int .i64 n)) w:=by
  intro b n c' ex;rw[Rw ho hc];simp[builtin,Builtin.len_,hargs,hts,ex,C8 ht,goInt]
 simp only[Af] at e
 split at e
 . rename_i hxe
   rw[hxe] at rx;obtain⟨b,ex⟩:=Py rx;cases e;exact Out.pure H B S T (x:=.int .i64 0) (by simpa using go b 0 0 ex) (.int _ _) rfl
 . rename_i l q n hxe
   rw[hxe] at rx;obtain⟨blk,hb,h⟩:=G1 rx;cases e;rcases h with⟨c',ex,_⟩|⟨rfl,b,ex⟩
   . exact Out.pure H B S T (x:=.int .i64 n) (go _ n c' ex) (.int _ _) rfl
   . exact Out.pure H B S T (x:=.int .i64 (0:Nat)) (go b 0 0 ex) (.int _ _) rfl
 . cases e
theorem Zcz {c:Call} {t:TypeId} {x:Operand} {x':Opnd} (ho:o.op= .call c) (hc:c.callee= .builtin .len) (hargs:c.args=#[x]) (hts:c.argTypes=#[t]) (ht:P.underlying t=some .string)
 (hx:Ay x x'=true) (e:Af (.lenT x') st=some (v,bx,hp)):Out P o a ι0 σ0 w0 w st.sl v bx hp:=by
 have rx:=BB hx S
 simp only[Af] at e
 split at e
 . rename_i s hxe
   rw[hxe] at rx;have ex:=PK rx;cases e;have hz:(ByteArray.mk s.toArray).size=s.length:=Xk;exact Out.pure H B S T (x:=.int .i64 s.length) (by rw[Rw ho hc];simp[builtin,Builtin.len_,hargs,hts,ex,C8 ht,goInt,hz]) (.int _ _) rfl
 . cases e
theorem Zcw {c:Call} {x y:Operand} {x' y':Opnd} (ho:o.op= .call c) (hc:c.callee= .builtin .min) (hargs:c.args=#[x,y]) (hx:Ay x x'=true) (hy:Ay y y'=true)
 (e:Af (.minI x' y') st=some (v,bx,hp)):Out P o a ι0 σ0 w0 w st.sl v bx hp:=by
 have rx:=BB hx S
 have ry:=BB hy S
 simp only[Af] at e
 split at e
 . rename_i m n hxe hye
   rw[hxe] at rx;rw[hye] at ry;have ex:=E5 rx;have ey:=E5 ry;cases e;exact Out.pure H B S T (x:=.int .i64 (if n<m then n else m)) (by rw[Rw ho hc];simp[builtin,Builtin.min_,Builtin.min2,hargs,ex,ey]) (.int _ _) rfl
 . cases e
theorem Zcj {c:Call} {x y:Operand} {x' y':Opnd} (ho:o.op= .call c) (hc:c.callee= .builtin .max) (hargs:c.args=#[x,y]) (hx:Ay x x'=true) (hy:Ay y y'=true)
 (e:Af (.maxI x' y') st=some (v,bx,hp)):Out P o a ι0 σ0 w0 w st.sl v bx hp:=by
 have rx:=BB hx S
 have ry:=BB hy S
 simp only[Af] at e
 split at e
 . rename_i m n hxe hye
   rw[hxe] at rx;rw[hye] at ry;have ex:=E5 rx;have ey:=E5 ry;cases e;exact Out.pure H B S T (x:=.int .i64 (if n > m then n else m)) (by rw[Rw ho hc];simp[builtin,Builtin.max_,Builtin.max2,hargs,ex,ey]) (.int _ _) rfl
 . cases e
theorem yi{x:Operand}{x':Opnd}{i:Nat}(ho:o.op= .extract x i)(hx:Ay x x'=true)(e:Af (.extract x' i) st=some (v,bx,hp)):Out P o a ι0 σ0 w0 w st.sl v bx hp:=by
 have rx:=BB hx S;simp only[Af] at e;split at e
 . rename_i vs hxe;rw[hxe] at rx;obtain⟨ws,ex,hl,hk,h⟩:=mx rx;split at e
   . rename_i u hu;cases e
     have hi:i<ws.length:=by rw[<- hl];exact(List.getElem?_eq_some_iff.1 hu).1
     have hw:ws[i]?=some ws[i]:=Bf hi;exact Out.pure H B S T (x:=ws[i]) (by simp[execOp,ho,ex,Instr.extract,hw]) (h i _ _ hu hw) rfl
   . cases e
 . cases e
end
theorem LO(b o n:Nat):(⟨b,o,none⟩:Addr).add n=⟨b,o+n,none⟩:=by
 unfold Addr.add;split
 . rename_i h;subst h;rfl
 . rfl
theorem Rt{P:Program}{w:World}{ad:Addr}{cs:List Value}(h:∀ (j:Nat) v,cs[j]?=some v->w.cell? (ad.add j)=some v):(loadCells ad cs.length).run P w= .ok cs.toArray w:=
 run_loadCells_list w ad cs h
theorem VJ {P:Program}{w:World}{t:TypeId}{n:Option Nat}(ht:HM P t n=true){ad:Addr}{cs:List Value}(hl:cs.length=n.getD 1)(h:∀ (j:Nat) v,cs[j]?=some v->w.cell? (ad.add j)=some v) :
 (n.isSome=true->(loadVar t ad).run P w= .ok (.agg cs.toArray) w)/\(n=none->∀ x,cs=[x]->(loadVar t ad).run P w= .ok x w):=by
 obtain⟨d,i,hd,hi,hagg,hsz⟩:=Wb ht
 refine⟨λ hn=>?_,λ hn x hx=>?_⟩
 . have hc:=Rt (P:=P) h
   rw[hl,<- hsz] at hc;simp only[loadVar,D2,LW hd,Dk,hagg,hn,AN,F6 hi,hc];rfl
 . subst hn
   subst hx;have h0:=h 0 x rfl
   have e0:ad.add 0=ad:=by simp[Addr.add]
   rw[e0] at h0;simp[loadVar,LW hd,hagg,h0]
theorem WC{ι:AA}{st:St}{w:World}(H:HRel ι st.hp w){l q n:Nat}{cs:List V}(e:rd st.hp l q n=some cs):∃ ws:List Value,ws.length=n/\cs.length=n/\(∀ u,u∈cs->u.cell=true) /\
 (∀ (j:Nat) y,ws[j]?=some y->w.cell? ((⟨(ι l).b,(ι l).o+q,none⟩:Addr).add j)=some y)/\∀ (j:Nat) u y,cs[j]?=some u->ws[j]?=some y->∀ β',Rel ι st.hp β' u y:=by
 obtain⟨b,hb,hk,hle,rfl⟩:=ZbZ e
 have key:∀ j,j<n->∃ y,w.cell? ((⟨(ι l).b,(ι l).o+q,none⟩:Addr).add j)=some y/\∀ u,b.cs[q+j]?=some u->u.cell=true/\∀ β',Rel ι st.hp β' u y:=by
  intro j hj
  have hlt:q+j<b.cs.length:=by omega
  obtain⟨hc,y,hy,hr⟩:=H.cells l b hb hk (q+j) _ (Bf hlt);refine⟨y,by rw[LO,Sj];exact hy,λ u hu=>?_⟩;rw[Bf hlt] at hu;cases hu;exact⟨hc,hr⟩
 let ws:List Value:=(List.range n).map λ j=>(w.cell? ((⟨(ι l).b,(ι l).o+q,none⟩:Addr).add j)).getD default
 have hws:∀ j y,ws[j]?=some y->j<n/\w.cell? ((⟨(ι l).b,(ι l).o+q,none⟩:Addr).add j)=some y:=by
  intro j y hy
  have hj:j<n:=by
   rcases BN j n with h|h
   . exact h
   . simp[ws,h] at hy
  obtain⟨y',hy',_⟩:=key j hj;simp[ws,hj,hy'] at hy;subst hy;exact⟨hj,hy'⟩
 refine⟨ws,by simp[ws],Rc hle,λ u hu=>?_,λ j y hy=>(hws j y hy).2,λ j u y hu hy β'=>?_⟩
 . obtain⟨k,hk'⟩:=JB hu
   obtain⟨hkn,hk'⟩:=Fu hk';obtain⟨_,_,h⟩:=key k hkn;exact(h u hk').1
 . obtain⟨hj,hu⟩:=Fu hu
   obtain⟨y',hy',h⟩:=key j hj;have:=(hws j y hy).2;rw[hy'] at this;cases this;exact(h u hu).2 β'
section
variable {P:Program} {o:Oper} {a:Act} {ι:AA} {β:Nat->Nat} {st:St} {w0 w:World} {v:V} {bx:List (List V)} {hp:Ad}
 (H:HRel ι st.hp w) (B:BRel ι st.hp β st.bx w0 w) (S:SRel ι st.hp β st.sl a.tmps) {ι0:AA} {σ0:Ad} (T:Step ι0 σ0 w0 ι st.hp w)
include H B S T
theorem zJ {t:TypeId} {f off:Nat} {n:Option Nat} {x:Operand} {x':Opnd} (ho:o.op= .fieldAddr t x f) (hf:L0 P t f off n=true) (hx:Ay x x'=true)
 (e:Af (.fieldA off x') st=some (v,bx,hp)):Out P o a ι0 σ0 w0 w st.sl v bx hp:=by
 have rx:=BB hx S
 obtain⟨fs,g,h1,h2,h3,h4,h5⟩:=iz hf
 obtain⟨d,i,hd,hi,_,hsz⟩:=Wb h4
 have hne:i.size≠0:=by
  rw[hsz]
  cases n with
  |none=>simp
  |some m=>simpa using h5
 have go:∀ b q,a.eval x= .pointer (some ⟨b,q,none⟩)->(execOp a.eval o).run P w= .ok (.value (.pointer (some ⟨b,q+off,none⟩))) w:=by
  intro b q ex;simp[execOp,ho,ex,Instr.fieldAt,C8 h1,h2,Instr.sureAddr,fieldPlace,F6 hi,hne,LO,h3]
 simp only[Af] at e
 split at e
 . rename_i j q hxe
   rw[hxe] at rx;have ex:=RZ rx;cases e;exact Out.pure H B S T (go _ _ ex) (.box _ _) rfl
 . rename_i l q hxe
   rw[hxe] at rx;obtain⟨⟨blk,hb⟩,ex⟩:=IB rx;cases e;have:=Rel.ptr (ι:=ι) (σ:=st.hp) (β:=β) l (q+off) blk hb (Wn rx hb);exact Out.pure H B S T (go _ _ ex) (by rwa [<- Sj] at this) rfl
 . cases e
theorem ZaG {t:TypeId} {f off:Nat} {n:Option Nat} {x:Operand} {x':Opnd} (ho:o.op= .field t x f) (hf:L0 P t f off n=true) (hx:Ay x x'=true)
 (e:Af (.field off n x') st=some (v,bx,hp)):Out P o a ι0 σ0 w0 w st.sl v bx hp:=by
 have rx:=BB hx S
 obtain⟨fs,g,h1,h2,h3,h4,h5⟩:=iz hf
 obtain⟨d,i,hd,hi,hag,hsz⟩:=Wb h4
 simp only[Af] at e
 split at e
 . rename_i cs hxe
   rw[hxe] at rx;obtain⟨ws,ex,hl,hk,h⟩:=cd rx;split at e
   . rename_i hle;simp only[B9] at e;obtain⟨u,e1,e2⟩:=e;cases e2
     have hws:((ws.drop off).take (n.getD 1)).length=n.getD 1:=by simp;omega
     have hcs:=Rc hle
     rcases Wr (ι:=ι) (σ:=st.hp) (β:=β) (ws:=(ws.drop off).take (n.getD 1)) e1 (by rw[hws,hcs])
      (λ u hu=>hk u (List.mem_of_mem_drop (KU hu)))
      (λ j u y hu hy=>by
       obtain⟨_,hu⟩:=Fu hu;obtain⟨_,hy⟩:=Fu hy
       exact h _ _ _ hu hy) with⟨hn,hr⟩|⟨hn,y,hy,hr⟩
     . refine Out.pure H B S T ?_ hr rfl;simp[execOp,ho,ex,Instr.field,C8 h1,h2,part,asAgg,LW hd,hag,hn,F6 hi,hsz,h3,Xr]
     . refine Out.pure H B S T ?_ hr rfl;subst hn
       have hy0:ws[off]?=some y:=by
        have:((ws.drop off).take 1)[0]?=some y:=by
         have:=congrArg (λ l:List Value=>l[0]?) hy;simpa using this
        rw[IJ] at this;simpa using this
       simp[execOp,ho,ex,Instr.field,C8 h1,h2,part,asAgg,LW hd,hag,h3,hy0]
   . cases e
 . cases e
theorem zi {t:TypeId} {ww:Nat} {x i:Operand} {x' i':Opnd} (ho:o.op= .indexAddr t x i) (hw:IL P t ww=true) (hx:Ay x x'=true) (hi:Ay i i'=true)
 (e:Af (.indexA ww x' i') st=some (v,bx,hp)):Out P o a ι0 σ0 w0 w st.sl v bx hp:=by
 have rx:=BB hx S
 have ri:=BB hi S
 obtain⟨el,inf,z,h1,h2,h3,_,_,_⟩:=VW hw
 simp only[Af] at e
 split at e
 . rename_i l q n k j hxe hie
   rw[hxe] at rx;rw[hie] at ri;obtain⟨blk,hb,h⟩:=G1 rx;have ei:=E5 ri;split at e
   . rename_i hj;cases e;rcases h with⟨c,ex,hn,hc⟩|⟨rfl,_⟩
     . have:=Rel.ptr (ι:=ι) (σ:=st.hp) (β:=β) l (q+j.toNat*ww) blk hb (LI rx hb);refine Out.pure H B S T ?_ this rfl;have hj':0<=j/\j<(n:Int):=hj;simp[execOp,ho,ex,ei,Instr.indexAt,asIntOf,C8 h1,hj',F6 h2,h3,LO,Sj]
     . omega
   . cases e
 . cases e
theorem Zbh {t:TypeId} {x i:Operand} {x' i':Opnd} (ho:o.op= .index t x i) (ht:P.underlying t=some .string) (hx:Ay x x'=true) (hi:Ay i i'=true)
 (e:Af (.index x' i') st=some (v,bx,hp)):Out P o a ι0 σ0 w0 w st.sl v bx hp:=by
 have rx:=BB hx S
 have ri:=BB hi S
 simp only[Af] at e
 split at e
 . rename_i s k j hxe hie
   rw[hxe] at rx;rw[hie] at ri;have ex:=PK rx;have ei:=E5 ri;split at e
   . rename_i hj;split at e
     . rename_i b hb;cases e;refine Out.pure H B S T (x:=.int .u8 b.toNat) ?_ (.int _ _) rfl;have hlt:j.toNat<s.length:=(List.getElem?_eq_some_iff.1 hb).1
       have hb':(⟨s.toArray⟩:ByteArray)[j.toNat]?=some b:=by
        rw[ByteArray.getElem?_lt' _ _ (by simpa [ByteArray.size] using hlt)];have:=(List.getElem?_eq_some_iff.1 hb).2;exact congrArg some this
       simp[execOp,ho,ex,ei,Instr.index,asIntOf,C8 ht,hj,hb']
     . cases e
   . cases e
 . cases e
theorem ZaN{t:TypeId}{i:Nat}{n:Option Nat}{x:Operand}{x':Opnd}(ho:o.op= .load t x)(ht:HM P t n=true)(hx:Ay x x'=true)(e:Af (.loadB i n x') st=some (v,bx,hp)):Out P o a ι0 σ0 w0 w st.sl v bx hp:=by
 have rx:=BB hx S;simp only[Af] at e;split at e
 . rename_i j q hxe;rw[hxe] at rx;have ex:=RZ rx;split at e
   . rename_i hc;obtain⟨rfl,hle⟩:=hc;simp only[B9] at e;obtain⟨u,e1,e2⟩:=e;cases e2;by_cases h0:n.getD 1=0
     ·
      have hn:n=some 0:=by cases n with|none=>simp at h0|some m=>simpa using h0
      subst hn;simp[Dp] at e1;subst e1;have:=(VJ ht (w:=w) (ad:=⟨β i,q,none⟩) (cs:=[]) rfl (λ j v h=>by simp at h)).1 rfl;exact Out.pure H B S T (x:=.agg #[]) (by simp[execOp,ho,ex,Instr.loadAt,Instr.sureAddr,this]) (.agg [] [] rfl (by simp) (by simp)) rfl
     . have hne:AW st.bx i≠[]:=λ h=>by rw[h] at hle;simp at hle;omega
       have hbi:st.bx[i]?=some (AW st.bx i):=by
        rw[RY] at hne ⊢
        cases h:st.bx[i]? with
        |none=>rw[h] at hne;exact absurd rfl hne
        |some c=>rfl
       obtain⟨arr,el,harr,hsz,hcells⟩:=B.cells i _ hbi hne
       have hsub:((arr.toList.drop q).take (n.getD 1)).length=n.getD 1:=by simp;omega
       have hload:∀ (j:Nat) y,((arr.toList.drop q).take (n.getD 1))[j]?=some y->w.cell? ((⟨β i,q,none⟩:Addr).add j)=some y:=by
        intro j y hy;obtain⟨_,hy⟩:=Fu hy;rw[LO];simp only[World.cell?,harr];simpa using hy
       have hl:=VJ (P:=P) ht hsub hload
       rcases Wr (ι:=ι) (σ:=st.hp) (β:=β) (ws:=(arr.toList.drop q).take (n.getD 1)) e1 (by rw[hsub,Rc hle])
        (λ u hu=>by
         obtain⟨k,hk⟩:=JB hu;obtain⟨_,hk⟩:=Fu hk
         exact(hcells _ _ hk).1)
        (λ j u y hu hy=>by
         obtain⟨_,hu⟩:=Fu hu;obtain⟨_,y',hy',hr⟩:=hcells _ _ hu;obtain⟨_,hy⟩:=Fu hy
         have:arr[q+j]?=some y:=by simpa using hy
         rw[hy'] at this;cases this;exact hr _) with⟨hn,hr⟩|⟨hn,y,hy,hr⟩
       . exact Out.pure H B S T (by simp[execOp,ho,ex,Instr.loadAt,Instr.sureAddr,hl.1 hn]) hr rfl
       . exact Out.pure H B S T (by simp[execOp,ho,ex,Instr.loadAt,Instr.sureAddr,hl.2 hn y hy]) hr rfl
   . cases e
 . cases e
theorem kC{t:TypeId}{n:Option Nat}{x:Operand}{x':Opnd}(ho:o.op= .load t x)(ht:HM P t n=true)(hx:Ay x x'=true)(e:Af (.loadH n x') st=some (v,bx,hp)):Out P o a ι0 σ0 w0 w st.sl v bx hp:=by
 have rx:=BB hx S;simp only[Af] at e;split at e
 . rename_i l q hxe;rw[hxe] at rx;obtain⟨_,ex⟩:=IB rx;simp only[B9] at e;obtain⟨cs,e0,u,e1,e2⟩:=e;cases e2;obtain⟨ws,h1,h2,h3,h4,h5⟩:=WC H e0;have hl:=VJ (P:=P) ht h1 h4;rcases Wr (ι:=ι) (σ:=st.hp) (β:=β) e1 (by rw[h1,h2]) h3 (λ j u y hu hy=>h5 j u y hu hy _) with⟨hn,hr⟩|⟨hn,y,hy,hr⟩
   . exact Out.pure H B S T (by simp[execOp,ho,ex,Instr.loadAt,Instr.sureAddr,hl.1 hn]) hr rfl
   . exact Out.pure H B S T (by simp[execOp,ho,ex,Instr.loadAt,Instr.sureAddr,hl.2 hn y hy]) hr rfl
 . cases e
end
def Hm:Option Operand->Option Opnd->Bool
 |none,none=>true
 |some x,some y=>Ay x y
 |_,_=>false
theorem jf{x:Option Operand}{y:Option Opnd}(h:Hm x y=true){ι:AA}{σ:Ad}{β:Nat->Nat}{sl:List V}{a:Act}(S:SRel ι σ β sl a.tmps){d n:Nat}(e:E4 d (y.map (·.ev sl))=some n) :
 (x=none/\n=d)\/∃ q k i,x=some q/\a.eval q= .int k i/\0<=i/\n=i.toNat:=by
 cases x with
 | none=>cases y with
   |none=>simp[E4] at e;exact .inl ⟨rfl,e.symm⟩
   |some y=>simp[Hm] at h
 | some x=>cases y with
   |none=>simp[Hm] at h
   | some y=>
     have rx:=BB (show Ay x y=true from h) S;simp only[Cv] at e;unfold E4 at e;split at e
     . rename_i h1;cases h1
     . rename_i k i h1;simp only[Ak] at h1;rw[h1] at rx;split at e
       . rename_i hi;cases e;exact .inr ⟨x,k,i,rfl,E5 rx,hi,rfl⟩
       . cases e
     . cases e
theorem jB {P:Program} {w:World} {ι:AA} {σ:Ad} {β:Nat->Nat} {sl:List V} {a:Act} (S:SRel ι σ β sl a.tmps) {lo hi:Option Operand} {lo' hi':Option Opnd} (hlo:Hm lo lo'=true) (hhi:Hm hi hi'=true)
 {isS:Bool} {len cap l h:Nat} (el:E4 0 (lo'.map (·.ev sl))=some l) (eh:E4 len (hi'.map (·.ev sl))=some h) (h1:l<=h) (h2:h<=cap) (h3:hi=none->h<=cap) :
 (Instr.sliceBounds isS len cap (lo.map a.eval) (hi.map a.eval) none).run P w= .ok (l,h,cap) w:=by
 rcases jf hlo S el with⟨rfl,rfl⟩|⟨q,k,i,rfl,eq,hi0,rfl⟩<;>rcases jf hhi S eh with⟨rfl,rfl⟩|⟨q',k',i',rfl,eq',hi0',rfl⟩
 . simp[Instr.sliceBounds]
 . simp[Instr.sliceBounds,eq',WW w k' i' cap _ hi0' (by omega)]
 . simp[Instr.sliceBounds,eq,WW w k i h _ hi0 (by omega)]
 . simp[Instr.sliceBounds,eq,eq',WW w k' i' cap _ hi0' (by omega),WW w k i i'.toNat _ hi0 (by omega)]
theorem zF{ι:AA}{β:Nat->Nat}{st:St}{cs:List V}{ws:List Value}{s:List UInt8}(e:PM cs=some s)(hl:cs.length=ws.length)(h:∀ (j:Nat) u y,cs[j]?=some u->ws[j]?=some y->Rel ι st.hp β u y):∃ ns:List Int,ws=ns.map (Value.int .u8)/\s=ns.map λ n=>UInt8.ofNat n.toNat:=by
 induction cs generalizing ws s with
 | nil=>cases ws with
   |nil=>simp[PM] at e;exact⟨[],rfl,by simpa using e.symm⟩
   |cons=>simp at hl
 | cons c r ih=>cases ws with
   |nil=>simp at hl
   | cons y ys=>
     have h0:=h 0 c y rfl rfl;unfold PM at e;split at e
     . rename_i h1;cases h1
     . rename_i n r' h1;cases h1;simp only[B8] at e;obtain⟨s',e1,e2⟩:=e;obtain⟨ns,hn1,hn2⟩:=ih e1 (by simpa using hl) (λ j u y hu hy=>h (j+1) u y (by simpa using hu) (by simpa using hy));exact⟨n::ns,by rw[E5 h0,hn1];rfl,by rw[<- e2,hn2];rfl⟩
     . cases e
section
variable {P:Program} {o:Oper} {a:Act} {ι:AA} {β:Nat->Nat} {st:St} {w0 w:World} {v:V} {bx:List (List V)} {hp:Ad}
 (H:HRel ι st.hp w) (B:BRel ι st.hp β st.bx w0 w) (S:SRel ι st.hp β st.sl a.tmps) {ι0:AA} {σ0:Ad} (T:Step ι0 σ0 w0 ι st.hp w)
include H B S T
theorem Za5 {t:TypeId} {ww:Nat} {x:Operand} {lo hi:Option Operand} {x':Opnd} {lo' hi':Option Opnd} (ho:o.op= .slice t x lo hi none) (hw:IL P t ww=true) (hx:Ay x x'=true) (hlo:Hm lo lo'=true) (hhi:Hm hi hi'=true)
 (e:Af (.slice ww x' lo' hi') st=some (v,bx,hp)):Out P o a ι0 σ0 w0 w st.sl v bx hp:=by
 have rx:=BB hx S
 obtain⟨el,inf,z,h1,h2,h3,_,_,_⟩:=VW hw
 have go:∀ (b:Option Addr) (n c l h:Nat),a.eval x= .slice b n c->E4 0 (lo'.map (·.ev st.sl))=some l->E4 n (hi'.map (·.ev st.sl))=some h->l<=h->h<=c ->
  (execOp a.eval o).run P w= .ok (.value (.slice (if c=l then b else b.map (·.add (l*ww))) (h-l) (c-l))) w:=by
  intro b n c l h ex el' eh' q1 q2
  have hb:=jB (P:=P) (w:=w) S hlo hhi (isS:=true) (cap:=c) el' eh' q1 q2 (λ _=>q2)
  simp only[execOp,ho,ex,Instr.sliceAt,D2,C8 h1,Dk,Instr.slice,Option.map_none]
  simp only[hb,Dk,F6 h2,h3]
  rfl
 simp only[Af] at e
 split at e
 . rename_i hxe
   rw[hxe] at rx;obtain⟨b,ex⟩:=Py rx;simp only[B9] at e;obtain⟨l,el',h,eh',e⟩:=e;split at e
   . rename_i hz;obtain⟨rfl,rfl⟩:=hz;cases e;have:=go b 0 0 0 0 ex el' eh' (BI _) (BI _);exact Out.pure H B S T this (by simpa using Rel.nils b) rfl
   . cases e
 . rename_i l q n hxe
   rw[hxe] at rx;obtain⟨blk,hb,hcase⟩:=G1 rx;simp only[B9] at e;obtain⟨lo1,el',hi1,eh',e⟩:=e;split at e
   . rename_i hle;obtain⟨q1,q2,hbw⟩:=hle;simp only[EH,hb,Ak] at hbw;cases e;rcases hcase with⟨c,ex,hn,hc⟩|⟨rfl,b,ex⟩
     . have hrun:=go _ n c lo1 hi1 ex el' eh' q1 (JC q2 hn);refine Out.pure H B S T hrun ?_ rfl;by_cases hcl:c=lo1
       . have e1:hi1-lo1=0:=by omega
         have e2:c-lo1=0:=by omega
         rw[Ac hcl,e1,e2];exact .sliceEnd l _ blk hb _ (LI rx hb)
       . rw[Ae hcl]
         have hm:(c-lo1)*blk.w+lo1*blk.w=c*blk.w:=by rw[<- EJ];congr 1;omega
         have:=Rel.slice (ι:=ι) (σ:=st.hp) (β:=β) l (q+lo1*ww) (hi1-lo1) (c-lo1) blk hb (by omega) (by rw[<- hbw];omega) (LI rx hb);simpa [LO,Sj] using this
     . have h0:lo1=0/\hi1=0:=by omega
       obtain⟨rfl,rfl⟩:=h0;have:=go b 0 0 0 0 ex el' eh' (BI _) (BI _);exact Out.pure H B S T this (by simpa using Rel.sliceEnd l q blk hb b (LI rx hb)) rfl
   . cases e
 . cases e
theorem zx {t:TypeId} {x:Operand} {lo hi:Option Operand} {x':Opnd} {lo' hi':Option Opnd} (ho:o.op= .slice t x lo hi none) (ht:P.underlying t=some .string) (hx:Ay x x'=true) (hlo:Hm lo lo'=true) (hhi:Hm hi hi'=true)
 (e:Af (.substr x' lo' hi') st=some (v,bx,hp)):Out P o a ι0 σ0 w0 w st.sl v bx hp:=by
 have rx:=BB hx S
 simp only[Af] at e
 split at e
 . rename_i s hxe
   rw[hxe] at rx;have ex:=PK rx;simp only[B9] at e;obtain⟨l,el',h,eh',e⟩:=e;split at e
   . rename_i hle;cases e;have hz:(ByteArray.mk s.toArray).size=s.length:=Xk;have hb:=jB (P:=P) (w:=w) S hlo hhi (isS:=false) (cap:=s.length) el' eh' hle.1 hle.2 (λ _=>hle.2);refine Out.pure H B S T (x:=.string ⟨((s.drop l).take (h-l)).toArray⟩) ?_ (.str _) rfl;simp only[execOp,ho,ex,Instr.sliceAt,D2,C8 ht,Dk,Instr.slice,Option.map_none];simp only[D2,Dk,hb,hz,Option.isSome_none,AL,AQ]
     have hx:(ByteArray.mk s.toArray).extract l h=⟨((s.drop l).take (h-l)).toArray⟩:=by
      apply ByteArray.ext;simp[Xr]
     simp[hx]
   . cases e
 . cases e
theorem Zb4 {s d el:TypeId} {x:Operand} {x':Opnd} (ho:o.op= .convert s d x) (hs:P.underlying s=some (.slice el)) (hel:P.underlying el=some (.int .u8)) (hd:P.underlying d=some .string) (hx:Ay x x'=true)
 (e:Af (.bstr x') st=some (v,bx,hp)):Out P o a ι0 σ0 w0 w st.sl v bx hp:=by
 have rx:=BB hx S
 have go:∀ b n c,a.eval x= .slice b n c->(execOp a.eval o).run P w=((Conv.bytesToString (.slice b n c)).run P w).andThen λ u w'=>.ok (.value u) w':=by
  intro b n c ex;simp[execOp,ho,ex,convert,C8 hs,C8 hd,C8 hel]
 simp only[Af] at e
 split at e
 . rename_i hxe
   rw[hxe] at rx;obtain⟨b,ex⟩:=Py rx;cases e;refine Out.pure H B S T (x:=.string ⟨#[]⟩) ?_ (.str []) rfl;rw[go _ _ _ ex]
   cases b with
   |none=>simp[Conv.bytesToString];rfl
   | some b=>
     have:=b9 (P:=P) w b 0 0 [] (by simp[loadCells,loadCellsFrom]);rw[this];rfl
 . rename_i l q n hxe
   rw[hxe] at rx;obtain⟨blk,hb,hcase⟩:=G1 rx;simp only[B9] at e;obtain⟨cs,e0,t,e1,e2⟩:=e;cases e2;obtain⟨ws,q1,q2,q3,q4,q5⟩:=WC H e0;obtain⟨ns,hn1,hn2⟩:=zF (β:=β) e1 (by rw[q1,q2]) (λ j u y hu hy=>q5 j u y hu hy _)
   have hfold:∀ (ns:List Int) (r:ByteArray),ns.foldl (λ r n=>r.push (UInt8.ofNat n.toNat)) r=⟨r.data++(ns.map λ n=>UInt8.ofNat n.toNat).toArray⟩:=by
    intro ns
    induction ns with
    |nil=>intro r;simp
    | cons n ns ih=>
      intro r;rw[List.foldl_cons,ih];apply ByteArray.ext;apply Array.ext';simp[ByteArray.push]
   rcases hcase with⟨c,ex,_,_⟩|⟨rfl,b,ex⟩
   . refine Out.pure H B S T (x:=.string ⟨t.toArray⟩) ?_ (.str _) rfl;rw[go _ _ _ ex];have hl:=Rt (P:=P) q4;rw[q1] at hl;rw[b9 (P:=P) w _ n c ns (by rw[hl,hn1])];rw[hfold,hn2];simp[ByteArray.empty,ByteArray.emptyWithCapacity];rfl
   . have ht:t=[]:=by
      have:cs=[]:=List.length_eq_zero_iff.1 q2;subst this;simp[PM] at e1;exact e1
     subst ht;refine Out.pure H B S T (x:=.string ⟨#[]⟩) ?_ (.str []) rfl;rw[go _ _ _ ex]
     cases b with
     |none=>simp[Conv.bytesToString];rfl
     | some b=>
       have:=b9 (P:=P) w b 0 0 [] (by simp[loadCells,loadCellsFrom]);rw[this];rfl
 . cases e
end
def Mv(P:Program)(f:TypeId->Option (Option Nat)):List Field->Nat->Option Nat
 |[],off=>some off
 | g::r,off=>
   match f g.type with
   |some m=>if g.name != "_"&&g.offset == off&&HM P g.type m then Mv P f r (off+m.getD 1) else none
   |none=>none
def Ld(P:Program):Nat->TypeId->Option (Option Nat)
 |0,_=>none
 | d+1,t=>
   match P.underlying t with
   |some (.int _)=>some none
   |some (.struct fs)=>if P.stoodInHeld t then none else (Mv P (Ld P d) fs.toList 0).map some
   |_=>none
theorem iE:∀ (A A' B B':List V) (b:Bool),A.length=A'.length->Et (A++B) (A'++B')=some b ->
 (Et A A'=some false/\b=false)\/(Et A A'=some true/\Et B B'=some b)
 |[],[],B,B',b,_,h=>.inr ⟨rfl,h⟩
 |[],_::_,_,_,_,h,_=>by simp at h
 |_::_,[],_,_,_,h,_=>by simp at h
 | x :: A,y::A',B,B',b,hl,h=>by
   simp only[Eg,Et] at h ⊢
   cases hc:PQ x y with
   |none=>simp[hc] at h
   | some t=>
     cases t with
     |false=>simp[hc] at h;exact .inl ⟨rfl,h⟩
     |true=>simp only[hc] at h ⊢;exact iE A A' B B' b (by simpa using hl) h
theorem ke{α:Type}(l:List α)(o k n:Nat)(h:o+k<=n):(l.take n).drop o=((l.drop o).take k)++((l.take n).drop (o+k)):=by
 have e:=(List.take_append_drop k ((l.take n).drop o)).symm;rw[List.drop_drop] at e
 have e2:((l.take n).drop o).take k=(l.drop o).take k:=by
  rw[List.drop_take,List.take_take];congr 1;omega
 rw[e2] at e;exact e
theorem mI {P:Program}{w:World}:∀ (d:Nat) (t:TypeId) (m:Option Nat),Ld P d t=some m->∀ (ι:AA) (σ:Ad) (β:Nat->Nat) (cs ds:List V) (xs ys:List Value) (b:Bool),
 cs.length=m.getD 1->ds.length=m.getD 1->xs.length=m.getD 1->ys.length=m.getD 1 ->
 (∀ (i:Nat) v x,cs[i]?=some v->xs[i]?=some x->Rel ι σ β v x)->(∀ (i:Nat) v x,ds[i]?=some v->ys[i]?=some x->Rel ι σ β v x)->Et cs ds=some b->∀ d',d<=d' ->
 (m.isSome=true->(Op.equalIn d' t (.agg xs.toArray) (.agg ys.toArray)).run P w= .ok b w)/\(m=none->∀ x y,xs=[x]->ys=[y]->(Op.equalIn d' t x y).run P w= .ok b w)
 |0,_,_,h=>by simp[Ld] at h
 | d + 1, t, m, h => by
   intro ι σ β cs ds xs ys b lc ld lx ly hx hy e d' hd;obtain⟨d'',rfl⟩:∃ d'',d'=d''+1:=⟨d'-1,by omega⟩;unfold Ld at h;split at h
   . rename_i _ k ht;cases h;refine⟨λ h=>by simp at h,λ _ x y ex ey=>?_⟩;subst ex;subst ey
     match cs,ds,lc,ld with
     | [c],[c'],_,_=>
       have rx:=hx 0 c x rfl rfl;have ry:=hy 0 c' y rfl rfl
       have e0:PQ c c'=some b:=by
        unfold Et at e
        cases hc:PQ c c' with
        |none=>simp[hc] at e
        |some t=>cases t<;>simp[hc,Et] at e<;>simp[e]
       cases c<;>cases c'<;>simp[PQ] at e0;rw[E5 rx,E5 ry];obtain⟨rfl,e0⟩:=e0;rw[run_equalIn_int w d'' t _ k _ _ ht,e0]
   . rename_i fs ht; split at h
     . cases h
     . rename_i hst; simp only[B8] at h;obtain⟨n,hn,rfl⟩:=h;refine⟨λ _=>?_,λ h=>by cases h⟩
       have hf:P.fieldsOf t=fs:=by simp[Program.fieldsOf,ht]
       rw[run_equalIn_struct w d'' t _ _ (by rw[hf];exact ht) (by simpa using hst),hf];simp only[Hs] at lc ld lx ly
       have key:∀ (r:List Field) (off n:Nat),Mv P (Ld P d) r off=some n->off<=n->n<=cs.length->n<=xs.length->cs.length=ds.length->xs.length=ys.length->∀ b,Et ((cs.take n).drop off) ((ds.take n).drop off)=some b ->
        (Op.eqFields d'' xs.toArray ys.toArray r).run P w= .ok b w:=by
        intro r
        induction r with
        | nil=>
          intro off n hr _ h1 h2 h3 h4 b hb;simp[Mv] at hr;subst hr
          have z1:(cs.take off).drop off=[]:=by simp
          have z2:(ds.take off).drop off=[]:=by simp
          rw[z1,z2] at hb;simp[Et] at hb;subst hb;simp[Op.eqFields]
        | cons g r ih=>
          intro off n hr hon h1 h2 h3 h4 b hb;simp only[Mv] at hr;split at hr
          . rename_i m hm;split at hr
            . rename_i hc;simp only[Ah,Sb,HB,A0] at hc;obtain⟨⟨c1,c2⟩,c3⟩:=hc;obtain⟨dd,inf,q1,q2,q3,q4⟩:=Wb c3
              have mono:∀ (r:List Field) (off n:Nat),Mv P (Ld P d) r off=some n->off<=n:=by
               intro r
               induction r with
               |nil=>intro off n h;simp[Mv] at h;omega
               | cons g r ih=>
                 intro off n h;simp only[Mv] at h;split at h
                 . split at h
                   . have:=ih _ _ h;omega
                   . cases h
                 . cases h
              have hle:=mono r _ n hr;have sp1:=ke cs off (m.getD 1) n hle;have sp2:=ke ds off (m.getD 1) n hle;rw[sp1,sp2] at hb
              have l1:((cs.drop off).take (m.getD 1)).length=m.getD 1:=by simp;omega
              have l2:((ds.drop off).take (m.getD 1)).length=m.getD 1:=by simp;omega
              have l3:((xs.drop off).take (m.getD 1)).length=m.getD 1:=by simp;omega
              have l4:((ys.drop off).take (m.getD 1)).length=m.getD 1:=by simp;omega
              have step:∀ b',Et ((cs.drop off).take (m.getD 1)) ((ds.drop off).take (m.getD 1))=some b' ->
               ∃ xv yv,(part g.type xs.toArray g.offset).run P w= .ok xv w/\(part g.type ys.toArray g.offset).run P w= .ok yv w/\(Op.equalIn d'' g.type xv yv).run P w= .ok b' w:=by
               intro b' hb'
               have ihT:=mI (P:=P) (w:=w) d g.type m hm ι σ β _ _ ((xs.drop off).take (m.getD 1)) ((ys.drop off).take (m.getD 1)) b' l1 l2 l3 l4
                (λ i v x hv hxx=>hx _ v x (Fu hv).2 (Fu hxx).2) (λ i v x hv hxx=>hy _ v x (Fu hv).2 (Fu hxx).2) hb' d'' (by omega)
               cases m with
               | some k=>
                 refine⟨.agg ((xs.drop off).take k).toArray,.agg ((ys.drop off).take k).toArray,?_,?_,ihT.1 rfl⟩
                 . simp only[Option.isSome_some,Hs] at q3 q4;simp[part,LW q1,q3,F6 q2,q4,c2,Xr]
                 . simp only[Option.isSome_some,Hs] at q3 q4;simp[part,LW q1,q3,F6 q2,q4,c2,Xr]
               | none=>
                 simp only[Option.getD_none] at l3 l4 hle
                 have hx1:off<xs.length:=by omega
                 have hy1:off<ys.length:=by omega
                 have ex:(xs.drop off).take 1=[xs[off]]:=by rw[cG hx1];rfl
                 have ey:(ys.drop off).take 1=[ys[off]]:=by rw[cG hy1];rfl
                 refine⟨xs[off],ys[off],?_,?_,ihT.2 rfl _ _ ex ey⟩
                 . simp[part,LW q1,q3,c2,hx1]
                 . simp[part,LW q1,q3,c2,hy1]
              rcases iE _ _ _ _ b (by rw[l1,l2]) hb with⟨e1,rfl⟩|⟨e1,e2⟩
              . obtain⟨xv,yv,p1,p2,p3⟩:=step _ e1;simp[Op.eqFields,c1,p1,p2,p3]
              . obtain⟨xv,yv,p1,p2,p3⟩:=step _ e1;have:=ih _ n hr hle h1 h2 h3 h4 b e2;simp[Op.eqFields,c1,p1,p2,p3,this]
            . cases hr
          . cases hr
       refine key fs.toList 0 n hn (GC _) (by omega) (by omega) (by omega) (by omega) b ?_;have t1:cs.take n=cs:=P1 (by omega);have t2:ds.take n=ds:=P1 (by omega);simpa [t1,t2] using e
   . cases h
section
variable {P:Program} {o:Oper} {a:Act} {ι:AA} {β:Nat->Nat} {st:St} {w0 w:World} {v:V} {bx:List (List V)} {hp:Ad}
 (H:HRel ι st.hp w) (B:BRel ι st.hp β st.bx w0 w) (S:SRel ι st.hp β st.sl a.tmps) {ι0:AA} {σ0:Ad} (T:Step ι0 σ0 w0 ι st.hp w)
include H B S T
theorem Zc6 {op:BinOp} {t u:TypeId} {n:Nat} {neg:Bool} {x y:Operand} {x' y':Opnd} (ho:o.op= .binOp op t x y u) (hop:op=if neg then .neq else .eql) (hg:P.eqGuardType P.depth t=false) (hT:Ld P 50 t=some (some n))
 (hx:Ay x x'=true) (hy:Ay y y'=true) (e:Af (.eqA n neg x' y') st=some (v,bx,hp)):Out P o a ι0 σ0 w0 w st.sl v bx hp:=by
 have rx:=BB hx S
 have ry:=BB hy S
 simp only[Af] at e
 split at e
 . rename_i cs ds hxe hye
   rw[hxe] at rx;rw[hye] at ry;obtain⟨ws,ex,l1,_,q1⟩:=cd rx;obtain⟨us,ey,l2,_,q2⟩:=cd ry;split at e
   . rename_i hlen;simp only[B9] at e;obtain⟨b,e1,e2⟩:=e;cases e2;have hr:=(mI (P:=P) (w:=w) 50 t (some n) hT ι st.hp β cs ds ws us b hlen.1 hlen.2 (by rw[<- l1];exact hlen.1) (by rw[<- l2];exact hlen.2) q1 q2 e1 10000 (by omega)).1 rfl;have hgd:=run_eqGuard_agg (P:=P) w op t x y ws.toArray us.toArray hg;refine Out.pure H B S T (x:=.bool (if neg=true then !b else b)) ?_ (.bool _) rfl;simp only[execOp,ho,ex,ey,D2,hgd,Dk];cases neg
     . simp only[AL,AQ] at hop;subst hop;simp[run_eql_struct,hr]
     . simp only[AN] at hop;subst hop;simp[run_neq_struct,hr]
   . cases e
 . cases e
end
def upd{α:Type}(f:Nat->α)(i:Nat)(x:α):Nat->α:=λ j=>if j=i then x else f j
theorem CI{α:Type}(f:Nat->α)(i:Nat)(x:α):upd f i x i=x:=by simp[upd]
theorem DJ{α:Type}(f:Nat->α)(i j:Nat)(x:α)(h:j≠i):upd f i x j=f j:=by simp[upd,h]
def RelCells(ι:AA)(σ:Ad)(cs:List V)(ws:List Value):Prop:=
 cs.length<=ws.length/\∀ (i:Nat) v,cs[i]?=some v->v.cell=true/\∃ x,ws[i]?=some x/\∀ β,Rel ι σ β v x
theorem RelCells.mono{ι ι':AA}{σ σ':Ad}{cs:List V}{ws:List Value}(h:RelCells ι σ cs ws)(k:Keeps ι σ ι' σ'):RelCells ι' σ' cs ws:=
 ⟨h.1,λ i v hv=>let ⟨a,x,b,c⟩:=h.2 i v hv;⟨a,x,b,λ β=>(c β).cellMono k a⟩⟩
theorem Rel.oneCell{ι:AA}{σ:Ad}{β:Nat->Nat}{v:V}{x:Value}(h:Rel ι σ β v x)(hv:v.cell=true):x.oneCell'=true:=by
 cases h<;>first|rfl|simp[V.cell] at hv
theorem Rq{ι:AA}{σ:Ad}{β:Nat->Nat}{v:V}{x:Value}(h:Rel ι σ β v x)(hk:v.cells.all V.cell=true):RelCells ι σ v.cells x.cells.toList:=by
 obtain⟨h1,h2⟩:=h.cells hk;refine⟨by simp[h1],λ i u hu=>?_⟩;obtain⟨a,y,b,c⟩:=h2 i u hu;exact⟨a,y,by simpa using b,c⟩
theorem RelCells.agg{ι:AA}{σ:Ad}{β:Nat->Nat}{cs:List V}{ws:List Value}(h:RelCells ι σ cs ws)(hl:cs.length=ws.length):Rel ι σ β (.agg cs) (.agg ws.toArray):=
 .agg cs ws hl (λ v hv=>by obtain⟨i,hi⟩:=JB hv;exact(h.2 i v hi).1)
  (λ i v x hv hx=>by obtain⟨_,y,hy,hr⟩:=h.2 i v hv;rw[hy] at hx;cases hx;exact hr β)
theorem RelCells.splice{ι:AA}{σ:Ad}{cs vs:List V}{ws us:List Value}{o:Nat}(h:RelCells ι σ cs ws)(k:RelCells ι σ vs us)(hl:vs.length=us.length)(ho:o+vs.length<=cs.length) :
 RelCells ι σ (Ag.splice cs o vs) (ws.take o++us++ws.drop (o+us.length)):=by
 have h1:=h.1
 refine⟨by simp[GZ];omega,λ i v hv=>?_⟩
 rw[V6 cs o vs i ho] at hv
 by_cases hi:o<=i/\i<o+vs.length
 . rw[Ac hi] at hv
   obtain⟨a,x,b,c⟩:=k.2 _ v hv;refine⟨a,x,?_,c⟩;rw[Co,Db (by simp;omega),Bx (by simp;omega)]
   have:min o ws.length=o:=by omega
   simpa [this] using b
 . rw[Ae hi] at hv
   obtain⟨a,x,b,c⟩:=h.2 i v hv;refine⟨a,x,?_,c⟩;by_cases hlt:i<o
   . rw[Co,Bx (by simp;omega),IJ,Ac hlt];exact b
   . rw[Db (by simp;omega),L6]
     have e:o+us.length+(i-(ws.take o++us).length)=i:=by simp;omega
     rw[e];exact b
theorem SRel.mono{ι ι':AA}{σ σ':Ad}{β:Nat->Nat}{sl:List V}{tmps:Array Value}(h:SRel ι σ β sl tmps)(k:Keeps ι σ ι' σ'):SRel ι' σ' β sl tmps:=
 ⟨h.1,λ i=>(h.2 i).mono k λ _ _ _=>rfl⟩
theorem BRel.mono {ι ι':AA} {σ σ':Ad} {β:Nat->Nat} {bx:List (List V)} {w0 w w':World} (h:BRel ι σ β bx w0 w) (k:Keeps ι σ ι' σ')
 (hw:∀ (i:Nat) cs,bx[i]?=some cs->cs≠[]->w'.heap[β i]?=w.heap[β i]?) (hs:w.heap.size<=w'.heap.size)
 (hh:∀ (i:Nat) cs (l:Nat) (blk:Blk),bx[i]?=some cs->cs≠[]->σ'[l]?=some blk->blk.k≠.dead->(ι' l).b≠β i):BRel ι' σ' β bx w0 w' where
 cells i cs hi hne:=by
  obtain⟨arr,e,h1,h2,h3⟩:=h.cells i cs hi hne;refine⟨arr,e,by rw[hw i cs hi hne];exact h1,h2,λ j v hv=>?_⟩;obtain⟨a,x,b,c⟩:=h3 j v hv;exact⟨a,x,b,λ β'=>(c β').cellMono k a⟩
 new i cs hi hne:=⟨(h.new i cs hi hne).1,KW (h.new i cs hi hne).2 hs⟩
 apart:=h.apart
 heap:=hh
theorem MR(w:World)(ob:Obj)(k:Nat)(h:k<w.heap.size):(w.alloc ob).heap[k]?=w.heap[k]?:=heap_alloc_old w ob k h
theorem HRel.alloc{ι:AA}{σ:Ad}{w:World}(h:HRel ι σ w)(ob:Obj):HRel ι σ (w.alloc ob) where
 cells l blk hl hk i v hv:=by
  obtain⟨a,x,b,c⟩:=h.cells l blk hl hk i v hv;exact⟨a,x,by rw[WY (w:=w) (MR w ob _ (h.there l blk hl hk))];exact b,c⟩
 own l blk hl hk:=by
  obtain⟨a,b,arr,e,c,d⟩:=h.own l blk hl hk;exact⟨a,b,arr,e,by rw[MR w ob _ (h.there l blk hl (by rw[hk];decide))];exact c,d⟩
 apart:=h.apart
 there l blk hl hk:=by have:=h.there l blk hl hk;simp;omega
theorem Step.alloc(ι:AA)(σ:Ad)(w:World)(ob:Obj):Step ι σ w ι σ (w.alloc ob):=
 { Step.refl ι σ w with frame:=λ b hb _=>MR w ob b hb,size:=by simp }
theorem BRel.alloc{ι:AA}{σ:Ad}{β:Nat->Nat}{bx:List (List V)}{w0 w:World}(h:BRel ι σ β bx w0 w)(ob:Obj):BRel ι σ β bx w0 (w.alloc ob):=
 h.mono (.refl _ _) (λ i cs hi hne=>MR w ob _ (h.new i cs hi hne).2) (by simp) h.heap
theorem BRel.drew{ι:AA}{σ:Ad}{β:Nat->Nat}{bx:List (List V)}{w0 w:World}(h:BRel ι σ β bx w0 w):BRel ι σ β bx w0 w.drew:=
 h.mono (.refl _ _) (λ _ _ _ _=>rfl) (BI _) h.heap
theorem Ry(ι:AA)(σ:Ad)(p:Place)(blk:Blk):Keeps ι σ (upd ι σ.length p) (σ++[blk]) where
 place l b h:=DJ _ _ _ _ (by have:=Ce h;omega)
 width l b h:=⟨b,by rw[Bx (Ce h)];exact h,rfl⟩
theorem Gq{σ:Ad}{blk b:Blk}{l:Nat}(h:(σ++[blk])[l]?=some b):(l<σ.length/\σ[l]?=some b)\/(l=σ.length/\b=blk):=by
 by_cases hl:l<σ.length
 . rw[Bx hl] at h;exact .inl ⟨hl,h⟩
 . rw[Db (by omega)] at h
   have:l-σ.length=0:=by
    rcases dt (l-σ.length) with h0|h0
    . exact h0
    . rw[BV (by simp;omega)] at h;cases h
   rw[this] at h;simp at h;exact .inr ⟨by omega,h.symm⟩
theorem HRel.adopt {ι:AA} {σ:Ad} {w:World} (h:HRel ι σ w) {b:Nat} {arr:Array Value} {e:TypeId} {wd:Nat} {cs:List V} (hb:w.heap[b]?=some (.cells arr e (0,0)))
 (hfree:∀ (l:Nat) (blk:Blk),σ[l]?=some blk->blk.k≠.dead->(ι l).b≠b) (hc:RelCells ι σ cs arr.toList):HRel (upd ι σ.length ⟨b,0,arr.size⟩) (σ++[⟨.own,wd,cs⟩]) w:=by
 have K:=Ry ι σ ⟨b,0,arr.size⟩ ⟨.own,wd,cs⟩
 have hbs:b<w.heap.size:=by
  rcases BN b w.heap.size with q|q
  . exact q
  . rw[Array.getElem?_eq_none q] at hb;cases hb
 refine⟨λ l blk hl hk i v hv=>?_,λ l blk hl hk=>?_,λ l l' blk blk' hne hl hl' hk hk'=>?_,λ l blk hl hk=>?_⟩
 . rcases Gq hl with⟨hlt,hl⟩|⟨rfl,rfl⟩
   . rw[DJ _ _ _ _ (by omega)];obtain⟨a,x,b',c⟩:=h.cells l blk hl hk i v hv;exact⟨a,x,b',λ β=>(c β).cellMono K a⟩
   . rw[CI];obtain⟨a,x,b',c⟩:=hc.2 i v hv;refine⟨a,x,?_,λ β=>(c β).cellMono K a⟩;simp only[World.cell?,hb];simpa using b'
 . rcases Gq hl with⟨hlt,hl⟩|⟨rfl,rfl⟩
   . rw[DJ _ _ _ _ (by omega)];exact h.own l blk hl hk
   . rw[CI];exact⟨rfl,by simpa using hc.1,arr,e,hb,rfl⟩
 . rcases Gq hl with⟨hlt,hl⟩|⟨rfl,rfl⟩<;>rcases Gq hl' with⟨hlt',hl'⟩|⟨rfl,rfl⟩
   . rw[DJ _ _ _ _ (by omega),DJ _ _ _ _ (by omega)];exact h.apart l l' blk blk' hne hl hl' hk hk'
   . rw[DJ _ _ _ _ (by omega),CI];exact hfree l blk hl (by rw[hk];decide)
   . rw[CI,DJ _ _ _ _ (by omega)]
     exact λ q=>hfree l' blk' hl' hk' q.symm
   . exact absurd rfl hne
 . rcases Gq hl with⟨hlt,hl⟩|⟨rfl,rfl⟩
   . rw[DJ _ _ _ _ (by omega)];exact h.there l blk hl hk
   . rw[CI];exact hbs
theorem RO {ι:AA} {σ:Ad} {β:Nat->Nat} {bx:List (List V)} {w0 w:World} {sl:List V} {tmps:Array Value} (h:HRel ι σ w) (B:BRel ι σ β bx w0 w) (S:SRel ι σ β sl tmps) (arr:Array Value) (e:TypeId) (wd:Nat) (cs:List V)
 (hc:RelCells ι σ cs arr.toList) :
 HRel (upd ι σ.length ⟨w.heap.size,0,arr.size⟩) (σ++[⟨.own,wd,cs⟩]) (w.alloc (.cells arr e))/\BRel (upd ι σ.length ⟨w.heap.size,0,arr.size⟩) (σ++[⟨.own,wd,cs⟩]) β bx w0 (w.alloc (.cells arr e)) /\
 SRel (upd ι σ.length ⟨w.heap.size,0,arr.size⟩) (σ++[⟨.own,wd,cs⟩]) β sl tmps/\Step ι σ w (upd ι σ.length ⟨w.heap.size,0,arr.size⟩) (σ++[⟨.own,wd,cs⟩]) (w.alloc (.cells arr e)):=by
 have K:=Ry ι σ ⟨w.heap.size,0,arr.size⟩ ⟨.own,wd,cs⟩
 refine⟨(h.alloc (.cells arr e)).adopt (heap_alloc_new w _) (λ l blk hl hk=>by have:=h.there l blk hl hk;omega) hc,?_,S.mono K,?_⟩
 . refine B.mono K (λ i cs hi hne=>MR w _ _ (B.new i cs hi hne).2) (by simp) λ i cs l blk hi hne hl hk=>?_
   rcases Gq hl with⟨hlt,hl⟩|⟨rfl,rfl⟩
   . rw[DJ _ _ _ _ (by omega)];exact B.heap i cs l blk hi hne hl hk
   . rw[CI];have:=(B.new i cs hi hne).2;show w.heap.size≠β i;omega
 . refine { keeps:=K,kinds:=λ l blk blk' hl hl'=>?_,fresh:=λ l blk' hle hl hk=>?_,frame:=λ b hb _=>MR w _ b hb,size:=by simp,os:=rfl,output:=rfl,tape:=rfl }
   . rw[Bx (Ce hl),hl] at hl';cases hl';exact .inl rfl
   . rcases Gq hl with⟨hlt,hl⟩|⟨rfl,rfl⟩
     . omega
     . rw[CI];exact⟨rfl,.inl (BI _)⟩
theorem Hu{σ:Ad}{l j:Nat}{blk b:Blk}(h:(σ.set l blk)[j]?=some b):(j=l/\b=blk/\l<σ.length)\/(j≠l/\σ[j]?=some b):=by
 rw[G7] at h;split at h
 . rename_i e;split at h
   . cases h;exact .inl ⟨e.symm,rfl,by assumption⟩
   . cases h
 . rename_i e;exact .inr ⟨λ q=>e q.symm,h⟩
theorem Wm(ι:AA)(σ:Ad)(l:Nat)(blk blk':Blk)(h:σ[l]?=some blk)(hw:blk'.w=blk.w):Keeps ι σ ι (σ.set l blk') where
 place _ _ _:=rfl
 width j b hj:=by
  by_cases e:l=j
  . subst e;rw[h] at hj;cases hj;exact⟨blk',by rw[G7,Ac rfl,Ac (Ce h)],hw⟩
  . exact⟨b,by rw[G7,Ae e];exact hj,rfl⟩
theorem HRel.kill{ι:AA}{σ:Ad}{w:World}(h:HRel ι σ w){l:Nat}{blk:Blk}(hl:σ[l]?=some blk):HRel ι (σ.set l ⟨.dead,blk.w,[]⟩) w:=by
 have K:=Wm ι σ l blk ⟨.dead,blk.w,[]⟩ hl rfl;refine⟨λ j b hj hk i v hv=>?_,λ j b hj hk=>?_,λ j j' b b' hne hj hj' hk hk'=>?_,λ j b hj hk=>?_⟩
 . rcases Hu hj with⟨_,rfl,_⟩|⟨_,hj⟩
   . exact absurd rfl hk
   . obtain⟨a,x,b',c⟩:=h.cells j b hj hk i v hv;exact⟨a,x,b',λ β=>(c β).cellMono K a⟩
 . rcases Hu hj with⟨_,rfl,_⟩|⟨_,hj⟩
   . cases hk
   . exact h.own j b hj hk
 . rcases Hu hj with⟨_,rfl,_⟩|⟨_,hj⟩
   . cases hk
   . rcases Hu hj' with⟨_,rfl,_⟩|⟨_,hj'⟩
     . exact absurd rfl hk'
     . exact h.apart j j' b b' hne hj hj' hk hk'
 . rcases Hu hj with⟨_,rfl,_⟩|⟨_,hj⟩
   . exact absurd rfl hk
   . exact h.there j b hj hk
theorem Up{ws:List Value}{cs:List V}(h:Gt ws cs=true)(ι:AA)(σ:Ad):RelCells ι σ cs ws:=
 ⟨by rw[Ru h];exact BI _,λ i v hv=>let ⟨x,hx,hc⟩:=iU h i v hv;⟨iw hc,x,hx,λ β=>ZF hc ι σ β⟩⟩
def II(P:Program)(t:TypeId)(zs:List V):Bool:=
 match P.info? t with
 |some i=>(match i.zero with|some z=>Gt z.cells.toList zs&&zs.length == i.size|none=>false)
 |none=>false
theorem VU{P:Program}{t:TypeId}{zs:List V}(h:II P t zs=true):∃ i z,P.info? t=some i/\i.zero=some z/\Gt z.cells.toList zs=true/\zs.length=i.size:=by
 unfold II at h;split at h
 . rename_i i hi;split at h
   . rename_i z hz;simp at h;exact⟨i,z,hi,hz,h.1,h.2⟩
   . cases h
 . cases h
def Hy(place:Nat->Option (Nat×Nat)):List (Nat×Operand)->List (Nat×Nat×Opnd)->Bool
 |[],[]=>true
 |(i,x)::r,(off,size,y)::s=>place i == some (off,size)&&Ay x y&&Hy place r s
 |_,_=>false
theorem jM(off:Nat):∀ (vs:List Value) (k:Nat) (cells:Array Value) (j:Nat),off+k+vs.length<=cells.size ->
 ((vs.zipIdx k).foldl (λ cs (p:Value×Nat)=>cs.setIfInBounds (off+p.2) p.1) cells).size=cells.size /\
 ((vs.zipIdx k).foldl (λ cs (p:Value×Nat)=>cs.setIfInBounds (off+p.2) p.1) cells)[j]?=if off+k<=j/\j<off+k+vs.length then vs[j-(off+k)]? else cells[j]?
 |[],k,cells,j,_=>by simp;omega
 | v :: vs,k,cells,j,h=>by
   have ih:=jM off vs (k+1) (cells.setIfInBounds (off+k) v) j (by simp at h ⊢;omega);simp only[List.zipIdx_cons,List.foldl_cons];refine⟨by rw[ih.1];simp,?_⟩;rw[ih.2];by_cases hj:off+(k+1)<=j/\j<off+(k+1)+vs.length
   . rw[Ac hj,Ac (by simp;omega)]
     have:j-(off+k)=j-(off+(k+1))+1:=by omega
     rw[this];simp
   . rw[Ae hj];by_cases hj2:j=off+k
     . subst hj2;rw[Ac (by simp),SM,Ac rfl,Ac (by simp at h;omega)];simp
     . rw[Ae (by simp only[AH];omega),SM,Ae (Hv hj2)]
theorem Z5{ι:AA}{σ:Ad}{β:Nat->Nat}{sl:List V}{a:Act}(S:SRel ι σ β sl a.tmps)(place:Nat->Option (Nat×Nat)):∀ (ps:List (Nat×Operand)) (qs:List (Nat×Nat×Opnd)) (cells:Array Value) (cs out:List V),
 Hy place ps qs=true->RelCells ι σ cs cells.toList->cs.length=cells.size->Fe sl cs qs=some out ->
 ∃ arr,Instr.fill place cells (ps.map λ p=>(p.1,a.eval p.2))=some arr/\RelCells ι σ out arr.toList/\out.length=arr.size/\arr.size=cells.size
 | [],[],cells,cs,out,_,hr,hl,e=>by
   simp[Fe] at e;subst e;exact⟨cells,rfl,hr,hl,rfl⟩
 |[],_::_,_,_,_,h,_,_,_=>by simp[Hy] at h
 |_::_,[],_,_,_,h,_,_,_=>by simp[Hy] at h
 | (i, x)::ps,(off,size,y)::qs,cells,cs,out,h,hr,hl,e=>by
   simp only[Hy,Ah,A0] at h;obtain⟨⟨h1,h2⟩,h3⟩:=h;simp only[Fe] at e;split at e
   . rename_i hc;obtain⟨c1,c2,c3⟩:=hc;have rx:=BB h2 S;have rc:=Rq rx c3;obtain⟨s1,_⟩:=rx.cells c3
     have hn:((a.eval x).cells.zipIdx.foldl (λ cs (c,j)=>cs.setIfInBounds (off+j) c) cells)=(((a.eval x).cells.toList.zipIdx 0).foldl (λ cs (p:Value×Nat)=>cs.setIfInBounds (off+p.2) p.1) cells):=by
      rw[<- Array.foldl_toList];simp
     have hf:=λ j=>jM off (a.eval x).cells.toList 0 cells j (by simp;omega)
     have e1:(((a.eval x).cells.toList.zipIdx 0).foldl (λ cs (p:Value×Nat)=>cs.setIfInBounds (off+p.2) p.1) cells).toList=cells.toList.take off++(a.eval x).cells.toList++cells.toList.drop (off+(a.eval x).cells.toList.length):=by
      apply IG;intro j;have:=(hf j).2;rw[Array.getElem?_toList,this];simp only[HF]
      have hL:(a.eval x).cells.toList.length=size:=by simp;omega
      have hC:cells.toList.length=cells.size:=by simp
      by_cases hj:off<=j/\j<off+(a.eval x).cells.toList.length
      . rw[Ac hj,Co,Db (by simp;omega),Bx (by simp at hj ⊢;omega)]
        have:min off cells.size=off:=by omega
        simp[this]
      . rw[Ae hj];by_cases hlt:j<off
        . rw[Co,Bx (by simp;omega),IJ,Ac hlt];simp
        . rw[Db (by simp at hj ⊢;omega),L6]
          have e:off+(a.eval x).cells.toList.length+(j-(cells.toList.take off++(a.eval x).cells.toList).length)=j:=by simp at hj ⊢;omega
          rw[e];simp
     have hsz:=(hf 0).1;obtain⟨arr,q1,q2,q3,q4⟩:=Z5 S place ps qs _ _ out h3 (by rw[e1];exact hr.splice rc (by simp;omega) (by omega)) (by rw[GZ,hsz];exact hl) e;refine⟨arr,?_,q2,q3,by rw[q4,hsz]⟩;simp only[Cr,Instr.fill,h1];rw[Ae (by simp;omega),hn];exact q1
   . cases e
theorem ji{P:Program}{w:World}:∀ (fs:List Field),(fs.all λ f=>(P.info? f.type).isSome)=true ->
 (fs.mapM λ f=>do pure (f.offset,<- sizeOf f.type):Sem (List (Nat×Nat))).run P w= .ok (fs.map λ f=>(f.offset,P.cellsOf f.type)) w
 |[],_=>by simp
 | f::fs,h=>by
   simp only[GB,Ah] at h
   obtain⟨i,hi⟩:=Option.isSome_iff_exists.1 h.1
   have ih:=ji (P:=P) (w:=w) fs h.2
   simp only[List.mapM_cons,D2,F6 hi,Dk,PF,ih]
   simp[Program.cellsOf,hi]
def O5(P:Program)(fs:Array Field)(i:Nat):Option (Nat×Nat):=(fs[i]?).map λ f=>(f.offset,P.cellsOf f.type)
theorem mK(z:List V)(n:Nat):(DE z n).length=n*z.length:=by
 induction n with
 |zero=>simp[DE]
 |succ n ih=>simp[DE,ih,Nv];omega
theorem ZbV(z:List V)(n i:Nat)(h:i<n*z.length):(DE z n)[i]?=z[i % z.length]?:=by
 induction n generalizing i with
 |zero=>simp at h
 | succ n ih=>
   simp only[DE];by_cases hi:i<z.length
   . rw[Bx hi,Nat.mod_eq_of_lt hi]
   . rw[Db (by omega),ih _ (by rw[Nv] at h;omega)];congr 1;rw[Nat.mod_eq_sub_mod (a:=i) (by omega)]
section
variable {P:Program} {o:Oper} {a:Act} {ι:AA} {β:Nat->Nat} {st:St} {w0 w:World} {v:V} {bx:List (List V)} {hp:Ad}
 (H:HRel ι st.hp w) (B:BRel ι st.hp β st.bx w0 w) (S:SRel ι st.hp β st.sl a.tmps) {ι0:AA} {σ0:Ad} (T:Step ι0 σ0 w0 ι st.hp w)
include H B S T
theorem Zaz {t:TypeId} {fs:Array Field} {parts:Array (Nat×Operand)} {zs:List V} {ps:List (Nat×Nat×Opnd)} (ho:o.op= .build t parts) (ht:P.underlying t=some (.struct fs)) (hfs:(fs.toList.all λ f=>(P.info? f.type).isSome)=true)
 (hz:II P t zs=true) (hp':Hy (O5 P fs) parts.toList ps=true) (e:Af (.build zs ps) st=some (v,bx,hp)):Out P o a ι0 σ0 w0 w st.sl v bx hp:=by
 simp only[Af] at e
 split at e
 . simp only[B9] at e
   obtain⟨out,e1,e2⟩:=e;cases e2;obtain⟨i,z,h1,h2,h3,h4⟩:=VU hz;obtain⟨arr,q1,q2,q3,_⟩:=Z5 S (O5 P fs) parts.toList ps z.cells zs out hp' (Up h3 _ _) (by rw[Ru h3];simp) e1;refine Out.pure H B S T (x:=.agg arr) ?_ (by have:=q2.agg (β:=β) (by simpa using q3);simpa using this) rfl;have hpl:=ji (P:=P) (w:=w) fs.toList hfs
   have hpl':(fs.mapM λ f=>do pure (f.offset,<- sizeOf f.type):Sem (Array (Nat×Nat))).run P w= .ok (fs.map λ f=>(f.offset,P.cellsOf f.type)) w:=by
    rw[Array.mapM_eq_mapM_toList];simp only[Sem.run_map,hpl,Dk];congr 1;apply Array.ext';simp
   have hfl:Instr.fill (λ i=>(fs.map λ f=>(f.offset,P.cellsOf f.type))[i]?) z.cells (parts.map fun(i,x)=>(i,a.eval x)).toList=some arr:=by
    have:(λ i=>(fs.map λ f=>(f.offset,P.cellsOf f.type))[i]?)=O5 P fs:=by
     funext i;simp[O5]
    rw[this];simpa using q1
   simp only[execOp,ho,Instr.build,D2,Sq h1 h2,Dk,C8 ht,hpl',hfl];rfl
 . cases e
theorem zh{t:TypeId}{zs:List V}(ho:o.op= .alloc t)(hz:II P t zs=true)(e:Af (.allocH zs) st=some (v,bx,hp)):Out P o a ι0 σ0 w0 w st.sl v bx hp:=by
 simp only[Af] at e;split at e
 . rename_i hc;cases e;obtain⟨inf,z,h1,h2,h3,h4⟩:=VU hz;obtain⟨q1,q2,q3,q4⟩:=RO H B S z.cells t 1 zs (Up h3 _ _);refine⟨_,.pointer (some ⟨w.heap.size,0,none⟩),_,_,β,by simp[execOp,ho,Instr.alloc,Sq h1 h2,newVar,newRow],.inl rfl,q1,q2,q3,?_,T.trans q4⟩;have:=Rel.ptr (ι:=upd ι st.hp.length ⟨w.heap.size,0,z.cells.size⟩) (σ:=st.hp++[⟨.own,1,zs⟩]) (β:=β) st.hp.length 0 ⟨.own,1,zs⟩ (by simp) Nat.one_pos;rwa [CI] at this
 . cases e
theorem ZbY{t:TypeId}{n:Nat}{x:Operand}{x':Opnd}(ho:o.op= .box t x)(hx:Ay x x'=true)(e:Af (.boxH n x') st=some (v,bx,hp)):Out P o a ι0 σ0 w0 w st.sl v bx hp:=by
 have rx:=BB hx S;simp only[Af] at e;split at e
 . rename_i hc;cases e;have rc:=Rq rx hc.2;obtain⟨q1,q2,q3,q4⟩:=RO H B S (a.eval x).cells t 1 _ rc;refine⟨_,.pointer (some ⟨w.heap.size,0,none⟩),_,_,β,by simp[execOp,ho,Instr.box,newVar,newRow],.inl rfl,q1,q2,q3,?_,T.trans q4⟩;have:=Rel.ptr (ι:=upd ι st.hp.length ⟨w.heap.size,0,(a.eval x).cells.size⟩) (σ:=st.hp++[⟨.own,1,(x'.ev st.sl).cells⟩]) (β:=β) st.hp.length 0 ⟨.own,1,(x'.ev st.sl).cells⟩ (by simp) Nat.one_pos;rwa [CI] at this
 . cases e
theorem yA {t el:TypeId} {ww:Nat} {zs:List V} {l c:Operand} {l':Opnd} (ho:o.op= .makeSlice t l c) (hw:IL P t ww=true) (ht:P.underlying t=some (.slice el)) (hz:II P el zs=true) (hl:Ay l l'=true) (hc:Ay c l'=true)
 (e:Af (.mkSlice ww zs l') st=some (v,bx,hp)):Out P o a ι0 σ0 w0 w st.sl v bx hp:=by
 have rl:=BB hl S
 have rc:=BB hc S
 obtain⟨el',inf,z,g1,g2,g3,g4,g5,_⟩:=VW hw
 rw[ht] at g1;cases g1
 obtain⟨inf',z',h1,h2,h3,h4⟩:=VU hz
 rw[g2] at h1;cases h1
 rw[g5] at h2;cases h2
 simp only[Af] at e
 split at e
 . rename_i n hle
   rw[hle] at rl rc;have el1:=E5 rl;have el2:=E5 rc;split at e
   . rename_i hcond;obtain⟨c1,c2,c3,c4,c5⟩:=hcond;unfold Av at c5
     have hnle:n<=1099511627776:=by
      have:n.toNat<=n.toNat*ww:=Nat.le_mul_of_pos_right _ c3;omega
     have hrun:(execOp a.eval o).run P w= .ok (.value (.slice (some ⟨w.heap.size,0,none⟩) n.toNat n.toNat)) (w.alloc (.cells (madeCells z.cells (n.toNat*ww)) el)):=by
      have:=run_make (P:=P) w t el inf z ht g2 g5 .i64 .i64 n n c1 (Int.le_refl _) (by
       have h1:(inf.bytes:Int)*n<=128*n:=Int.mul_le_mul_of_nonneg_right (by omega) c1
       omega) (by omega)
      simp[execOp,ho,el1,el2,this,g3]
     have hzl:zs.length=ww:=by rw[h4,g3]
     have hzc:z.cells.size=ww:=by have:=Ru h3;simp at this;omega
     have hrel:∀ m,RelCells ι st.hp (DE zs m) (madeCells z.cells (m*ww)).toList:=by
      intro m;refine⟨by rw[mK,hzl];simp[Sf],λ i v hv=>?_⟩
      have hi:i<m*ww:=by have:=(List.getElem?_eq_some_iff.1 hv).1;rwa [mK,hzl] at this
      rw[ZbV zs m i (by rw[hzl];exact hi),hzl] at hv;obtain⟨x,hx,hcst⟩:=iU h3 _ _ hv;refine⟨iw hcst,x,?_,λ β=>ZF hcst ι st.hp β⟩
      have hlt:i % ww<z.cells.size:=by rw[hzc];exact KS _ c3
      simp only[madeCells,hzc]
      have hx':z.cells[i % ww]?=some x:=by simpa using hx
      simp only[Array.toList_map,Array.toList_range,HD,List.getElem?_range hi,Cv];rw[getElem!_pos z.cells (i % ww) hlt];exact congrArg some (Array.getElem?_eq_some_iff.1 hx').2
     split at e
     . rename_i h0;cases e;subst h0;refine⟨_,_,_,ι,β,hrun,.inl rfl,H.alloc _,B.alloc _,S,?_,T.trans (Step.alloc _ _ _ _)⟩;exact Rel.nils _
     . cases e;obtain⟨q1,q2,q3,q4⟩:=RO H B S (madeCells z.cells (n.toNat*ww)) el ww (DE zs n.toNat) (hrel _);refine⟨_,_,_,_,β,hrun,.inl rfl,q1,q2,q3,?_,T.trans q4⟩
       have:=Rel.slice (ι:=upd ι st.hp.length ⟨w.heap.size,0,(madeCells z.cells (n.toNat*ww)).size⟩) (σ:=st.hp++[⟨.own,ww,DE zs n.toNat⟩]) (β:=β) st.hp.length 0 n.toNat n.toNat ⟨.own,ww,DE zs n.toNat⟩ (by simp) (BI _)
        (by rw[CI];simp[Sf]) (by first|assumption|(simp only;omega))
       rwa [CI] at this
   . cases e
 . cases e
theorem nw{i:Nat}{cs:List V}{arr:Array Value}{el:TypeId}(hi:i<st.bx.length)(hc:RelCells ι st.hp cs arr.toList)(hl:cs.length=arr.size) :
 HRel ι st.hp (w.alloc (.cells arr el))/\BRel ι st.hp (upd β i w.heap.size) (Dr st.bx i cs) w0 (w.alloc (.cells arr el))/\SRel ι st.hp (upd β i w.heap.size) (clearBox i st.sl) a.tmps/\Step ι st.hp w ι st.hp (w.alloc (.cells arr el)) /\
 Rel ι st.hp (upd β i w.heap.size) (.box i 0) (.pointer (some ⟨w.heap.size,0,none⟩)):=by
 have hne:∀ (j:Nat) c,(Dr st.bx i cs)[j]?=some c->(j=i/\c=cs)\/(j≠i/\st.bx[j]?=some c):=by
  intro j c h;rw[Wz] at h;by_cases hj:j=i
  . rw[Ac ⟨hj,hi⟩] at h;cases h;exact .inl ⟨hj,rfl⟩
  . rw[Ae (λ q=>hj q.1)] at h;exact .inr ⟨hj,h⟩
 refine⟨H.alloc _,⟨λ j c hj hcn=>?_,λ j c hj hcn=>?_,λ j j' c c' hjj hj hj' hcn hcn'=>?_,λ j c l blk hj hcn hl2 hk=>?_⟩,⟨by simpa using S.1,λ n=>?_⟩,Step.alloc _ _ _ _,?_⟩
 . rcases hne j c hj with⟨rfl,rfl⟩|⟨hji,hg⟩
   . rw[CI];refine⟨arr,el,heap_alloc_new w _,hl.symm,λ k v hv=>?_⟩;obtain⟨q1,x,q2,q3⟩:=hc.2 k v hv;exact⟨q1,x,by simpa using q2,q3⟩
   . rw[DJ _ _ _ _ hji];obtain⟨arr',e',h1,h2⟩:=B.cells j c hg hcn;exact⟨arr',e',by rw[MR w _ _ (B.new j c hg hcn).2];exact h1,h2⟩
 . rcases hne j c hj with⟨rfl,rfl⟩|⟨hji,hg⟩
   . rw[CI];exact⟨T.size,by simp⟩
   . rw[DJ _ _ _ _ hji];have:=B.new j c hg hcn;exact⟨this.1,by simp;omega⟩
 . rcases hne j c hj with⟨rfl,rfl⟩|⟨hji,hg⟩<;>rcases hne j' c' hj' with⟨rfl,rfl⟩|⟨hji',hg'⟩
   . exact absurd rfl hjj
   . rw[CI,DJ _ _ _ _ hji'];have:=(B.new j' c' hg' hcn').2;omega
   . rw[CI,DJ _ _ _ _ hji];have:=(B.new j c hg hcn).2;omega
   . rw[DJ _ _ _ _ hji,DJ _ _ _ _ hji'];exact B.apart j j' c c' hjj hg hg' hcn hcn'
 . rcases hne j c hj with⟨rfl,rfl⟩|⟨hji,hg⟩
   . rw[CI];have:=H.there l blk hl2 hk;omega
   . rw[DJ _ _ _ _ hji];exact B.heap j c l blk hg hcn hl2 hk
 . rw[iy]
   split
   . exact .undef _
   . rename_i hb
     refine(S.2 n).mono (.refl _ _) λ j q hv=>?_
     rw[hv] at hb;simp[V.isBox] at hb;exact DJ _ _ _ _ (Hv hb)
 . have:=Rel.box (ι:=ι) (σ:=st.hp) (β:=upd β i w.heap.size) i 0
   rwa [CI] at this
theorem zu{t:TypeId}{i:Nat}{zs:List V}(ho:o.op= .alloc t)(hz:II P t zs=true)(e:Af (.allocB i zs) st=some (v,bx,hp)):Out P o a ι0 σ0 w0 w (clearBox i st.sl) v bx hp:=by
 simp only[Af] at e;split at e
 . rename_i hc;cases e;obtain⟨inf,z,h1,h2,h3,h4⟩:=VU hz;obtain⟨q1,q2,q3,q4,q5⟩:=nw H B S T (arr:=z.cells) (el:=t) hc.1 (Up h3 _ _) (by rw[Ru h3];simp);exact⟨_,_,_,ι,_,by simp[execOp,ho,Instr.alloc,Sq h1 h2,newVar,newRow],.inl rfl,q1,q2,q3,q5,T.trans q4⟩
 . cases e
theorem Zci{t:TypeId}{i n:Nat}{x:Operand}{x':Opnd}(ho:o.op= .box t x)(hx:Ay x x'=true)(e:Af (.boxB i n x') st=some (v,bx,hp)):Out P o a ι0 σ0 w0 w (clearBox i st.sl) v bx hp:=by
 have rx:=BB hx S;simp only[Af] at e;split at e
 . rename_i hc;obtain⟨c1,c2,c3⟩:=hc;cases e;have rc:=Rq rx c3;obtain⟨s1,_⟩:=rx.cells c3;obtain⟨q1,q2,q3,q4,q5⟩:=nw H B S T (arr:=(a.eval x).cells) (el:=t) c1 rc s1.symm;exact⟨_,_,_,ι,_,by simp[execOp,ho,Instr.box,newVar,newRow],.inl rfl,q1,q2,q3,q5,T.trans q4⟩
 . cases e
end
theorem V4{w:World}{b:Nat}{arr arr':Array Value}{e:TypeId}(hb:w.heap[b]?=some (.cells arr e (0,0))):(w.setRow b arr').heap[b]?=some (.cells arr' e (0,0)):=by
 simp[World.setRow,Array.getElem?_modify,hb]
theorem Jo{w:World}{b k:Nat}{arr':Array Value}(h:k≠b):(w.setRow b arr').heap[k]?=w.heap[k]?:=by
 simp only[World.setRow,Array.getElem?_modify];rw[Ae (Hv h)]
theorem LK(w:World)(b:Nat)(arr':Array Value):(w.setRow b arr').heap.size=w.heap.size:=by simp[World.setRow]
theorem HRel.setRow{ι:AA}{σ:Ad}{w:World}(h:HRel ι σ w){b:Nat}{arr':Array Value}(hf:∀ (l:Nat)(blk:Blk),σ[l]?=some blk->blk.k≠.dead->(ι l).b≠b):HRel ι σ (w.setRow b arr') where
 cells l blk hl hk i v hv:=by
  obtain⟨q,x,y,z⟩:=h.cells l blk hl hk i v hv;exact⟨q,x,by rw[WY (w:=w) (Jo (hf l blk hl hk))];exact y,z⟩
 own l blk hl hk:=by
  obtain⟨p,q,arr,e,r,s⟩:=h.own l blk hl hk;exact⟨p,q,arr,e,by rw[Jo (hf l blk hl (by rw[hk];decide))];exact r,s⟩
 apart:=h.apart
 there l blk hl hk:=by rw[LK];exact h.there l blk hl hk
theorem HRel.ownCells{ι:AA}{σ:Ad}{w:World}(h:HRel ι σ w){l:Nat}{blk:Blk}(hl:σ[l]?=some blk)(hk:blk.k= .own) :
 (ι l).o=0/\∃ arr e,w.heap[(ι l).b]?=some (.cells arr e (0,0))/\arr.size=(ι l).c/\RelCells ι σ blk.cs arr.toList:=by
 obtain⟨h1,h2,arr,e,h3,h4⟩:=h.own l blk hl hk
 refine⟨h1,arr,e,h3,h4,by simp;omega,λ i v hv=>?_⟩
 obtain⟨q,x,y,z⟩:=h.cells l blk hl (by rw[hk];decide) i v hv
 refine⟨q,x,?_,z⟩
 rw[h1,Cf] at y
 simp only[World.cell?,h3] at y
 simpa using y
theorem ie {P:Program} {w:World} {t:TypeId} {n:Nat} {inf:TypeInfo} (hi:P.info? t=some inf) (hs:inf.size=n) {b off:Nat} {arr:Array Value} {el:TypeId} (hb:w.heap[b]?=some (.cells arr el (0,0))) {x:Value} (hx:x.cells.size=n) (hfit:off+n<=arr.size)
 (h1:∀ u∈x.cells.toList,u.oneCell'=true) :
 (Instr.storeAt t (.pointer (some ⟨b,off,none⟩)) x).run P w= .ok () (w.setRow b (arr.toList.take off++x.cells.toList++arr.toList.drop (off+n)).toArray):=by
 have hst:=run_storeCells_at P b off el x.cells.toList 0 arr w hb (by simp;omega) h1
 have hl:x.cells.toList.length=n:=by simpa using hx
 simp only[HF,hl] at hst
 simp[Instr.storeAt,Instr.sureAddr,storeVar,F6 hi,hs,hx,hst]
section
variable {P:Program} {o:Oper} {a:Act} {ι:AA} {β:Nat->Nat} {st:St} {w0 w:World} {v:V} {bx:List (List V)} {hp:Ad}
 (H:HRel ι st.hp w) (B:BRel ι st.hp β st.bx w0 w) (S:SRel ι st.hp β st.sl a.tmps) {ι0:AA} {σ0:Ad} (T:Step ι0 σ0 w0 ι st.hp w)
include H B S T
theorem xx {t el:TypeId} {ww n:Nat} {parts:Array (Nat×Operand)} {zs:List V} {ps:List (Nat×Nat×Opnd)} {z:Value} {inf:TypeInfo} (ho:o.op= .buildSlice t n parts) (ht:P.underlying t=some (.slice el)) (hi:P.info? el=some inf)
 (hz:inf.zero=some z) (hs:inf.size=ww) (hcap:n*ww<=2^24) (hzz:Gt (madeCells z.cells (n*ww)).toList zs=true) (hpp:Hy (λ i=>some (i*ww,ww)) parts.toList ps=true)
 (h0:n=0->ps=[]) (e:Af (.litSlice ww n zs ps) st=some (v,bx,hp)):Out P o a ι0 σ0 w0 w st.sl v bx hp:=by
 have hzl:zs.length=n*ww:=by rw[Ru hzz];simp[Sf]
 have run:∀ (arr:Array Value),Instr.fill (λ i=>some (i*ww,ww)) (madeCells z.cells (n*ww)) (parts.toList.map λ p=>(p.1,a.eval p.2))=some arr ->
  (execOp a.eval o).run P w= .ok (.value (.slice (some ⟨w.heap.size,0,none⟩) n n)) (w.alloc (.cells arr el)):=by
  intro arr harr
  have hn:¬ (n*ww > 2^24):=by omega
  have hmap:(parts.map fun(i,x)=>(i,a.eval x)).toList=parts.toList.map λ p=>(p.1,a.eval p.2):=by simp
  by_cases hnz:n*ww=0
  . have hm:madeCells z.cells (n*ww)=#[]:=by rw[hnz];simp[madeCells]
    rw[hm] at harr;simp only[execOp,ho,Instr.buildSlice,D2,C8 ht,Dk,F6 hi,hs,Ae hn,hmap];simp only[hnz,AN,PF,Array.range_zero',Array.map_empty,harr];simp[newRow]
  . have hm:(Array.range (n*ww)).map (λ i=>z.cells[i % z.cells.size]!)=madeCells z.cells (n*ww):=rfl
    simp only[execOp,ho,Instr.buildSlice,D2,C8 ht,Dk,F6 hi,hs,Ae hn,hmap,Ae hnz,Sq hi hz,PF,hm,harr];simp[newRow]
 simp only[Af] at e
 split at e
 . rename_i hn
   cases e;have:=h0 hn;subst this
   have hp0:parts.toList=[]:=by
    cases hq:parts.toList with
    |nil=>rfl
    |cons x r=>rw[hq] at hpp;simp[Hy] at hpp
   have hr:=run (madeCells z.cells (n*ww)) (by rw[hp0];rfl);subst hn;refine⟨_,_,_,ι,β,hr,.inl rfl,H.alloc _,B.alloc _,S,.nils _,T.trans (Step.alloc _ _ _ _)⟩
 . split at e
   . simp only[B9] at e;obtain⟨out,e1,e2⟩:=e;cases e2;obtain⟨arr,q1,q2,q3,q4⟩:=Z5 S (λ i=>some (i*ww,ww)) parts.toList ps (madeCells z.cells (n*ww)) zs out hpp (Up hzz _ _) (by rw[hzl];simp[Sf]) e1;have hr:=run arr q1;obtain⟨r1,r2,r3,r4⟩:=RO H B S arr el ww out q2;refine⟨_,_,_,_,β,hr,.inl rfl,r1,r2,r3,?_,T.trans r4⟩
     have:=Rel.slice (ι:=upd ι st.hp.length ⟨w.heap.size,0,arr.size⟩) (σ:=st.hp++[⟨.own,ww,out⟩]) (β:=β) st.hp.length 0 n n ⟨.own,ww,out⟩ (by simp) (BI _)
      (by rw[CI];simp[q4,Sf]) (by first|assumption|(simp only;omega))
     rwa [CI] at this
   . cases e
theorem zp {t:TypeId} {i n:Nat} {inf:TypeInfo} {x y:Operand} {x' y':Opnd} (ho:o.op= .store t x y) (hi:P.info? t=some inf) (hs:inf.size=n) (hx:Ay x x'=true) (hy:Ay y y'=true)
 (e:Af (.storeB i n x' y') st=some (v,bx,hp)):Out P o a ι0 σ0 w0 w st.sl v bx hp:=by
 have rx:=BB hx S
 have ry:=BB hy S
 simp only[Af] at e
 split at e
 . rename_i j q hxe
   rw[hxe] at rx;have ex:=RZ rx;split at e
   . rename_i hc;obtain⟨rfl,c1,c2,c3,c4⟩:=hc;cases e;have rc:=Rq ry c4;obtain⟨s1,s2⟩:=ry.cells c4
     have hone:∀ u∈(a.eval y).cells.toList,u.oneCell'=true:=by
      intro u hu;obtain⟨k,hk⟩:=JB hu
      have hlt:k<(y'.ev st.sl).cells.length:=by
       have:=(List.getElem?_eq_some_iff.1 hk).1;simp at this;omega
      obtain⟨g1,z,g2,g3⟩:=rc.2 k _ (Bf hlt);rw[hk] at g2;cases g2;exact(g3 β).oneCell g1
     have hbi:st.bx[i]?=some (AW st.bx i):=by
      rw[RY,Bf c1];rfl
     by_cases hne:AW st.bx i=[]
     ·
      have hn0:n=0:=by rw[hne] at c3;simp at c3;omega
      subst hn0;have hnil:(y'.ev st.sl).cells=[]:=List.length_eq_zero_iff.1 c2
      have hcz:(a.eval y).cells=#[]:=by
       apply Array.eq_empty_of_size_eq_zero;rw[s1,c2]
      have hsp:splice (AW st.bx i) q (y'.ev st.sl).cells=AW st.bx i:=by rw[hnil,hne];cases q<;>rfl
      have hpb:Dr st.bx i (AW st.bx i)=st.bx:=by
       apply IG;intro m;rw[Wz];split
       . rename_i h;rw[h.1,hbi]
       . rfl
      rw[hsp,hpb];refine⟨.skip,Go.undef,w,ι,β,?_,.inr ⟨rfl,rfl⟩,H,B,S,.undef _,T⟩;simp[execOp,ho,ex,Instr.storeAt,Instr.sureAddr,storeVar,F6 hi,hs,hcz,storeCells]
     . obtain⟨arr,el,harr,hsz,hcells⟩:=B.cells i _ hbi hne;have hrun:=ie (P:=P) hi hs harr (x:=a.eval y) (off:=q) (by rw[s1,c2]) (by omega) hone;have hbn:=B.new i _ hbi hne
       have hfree:∀ (l:Nat) (blk:Blk),st.hp[l]?=some blk->blk.k≠.dead->(ι l).b≠β i:=λ l blk hl hk=>B.heap i _ l blk hbi hne hl hk
       refine⟨.skip,Go.undef,_,ι,β,by simp only[execOp,ho,ex,D2,hrun,Dk];rfl,.inr ⟨rfl,rfl⟩,H.setRow hfree,?_,S,.undef _,?_⟩
       . have hput:∀ (m:Nat) c,(Dr st.bx i (splice (AW st.bx i) q (y'.ev st.sl).cells))[m]?=some c->(m=i/\c=splice (AW st.bx i) q (y'.ev st.sl).cells)\/(m≠i/\st.bx[m]?=some c):=by
          intro m c h;rw[Wz] at h;by_cases hm:m=i
          . rw[Ac ⟨hm,c1⟩] at h;cases h;exact .inl ⟨hm,rfl⟩
          . rw[Ae (λ g=>hm g.1)] at h;exact .inr ⟨hm,h⟩
         have hrc:RelCells ι st.hp (AW st.bx i) arr.toList:=⟨by simp[hsz],λ k u hu=>by
          obtain⟨g1,z,g2,g3⟩:=hcells k u hu
          exact⟨g1,z,by simpa using g2,g3⟩⟩
         have hnew:=hrc.splice rc (o:=q) (by simp[s1]) (by omega)
         have hL:(a.eval y).cells.toList.length=n:=by simp;omega
         rw[hL] at hnew;refine⟨λ m c hm hcn=>?_,λ m c hm hcn=>?_,λ m m' c c' hmm hm hm' hcn hcn'=>?_,λ m c l blk hm hcn hl hk=>?_⟩
         . rcases hput m c hm with⟨rfl,rfl⟩|⟨hmi,hg⟩
           . refine⟨_,el,V4 harr,by simp[GZ];omega,λ k u hu=>?_⟩;obtain⟨g1,z,g2,g3⟩:=hnew.2 k u hu;exact⟨g1,z,by simpa using g2,g3⟩
           . obtain⟨arr',e',h1,h2⟩:=B.cells m c hg hcn;exact⟨arr',e',by rw[Jo (B.apart m i c _ hmi hg hbi hcn hne)];exact h1,h2⟩
         . rw[LK];rcases hput m c hm with⟨rfl,rfl⟩|⟨hmi,hg⟩
           . exact hbn
           . exact B.new m c hg hcn
         . rcases hput m c hm with⟨rfl,rfl⟩|⟨hmi,hg⟩<;>rcases hput m' c' hm' with⟨rfl,rfl⟩|⟨hmi',hg'⟩
           . exact absurd rfl hmm
           . exact B.apart _ _ _ _ hmm hbi hg' hne hcn'
           . exact B.apart _ _ _ _ hmm hg hbi hcn hne
           . exact B.apart m m' c c' hmm hg hg' hcn hcn'
         . rcases hput m c hm with⟨rfl,rfl⟩|⟨hmi,hg⟩
           . exact hfree l blk hl hk
           . exact B.heap m c l blk hg hcn hl hk
       ·
        exact { T with
         frame:=λ b hb hf=>by rw[Jo (by omega)];exact T.frame b hb hf
         size:=by rw[LK];exact T.size }
   . cases e
 . cases e
theorem Zaf {t:TypeId} {n:Nat} {inf:TypeInfo} {x y:Operand} {x' y':Opnd} (ho:o.op= .store t x y) (hi:P.info? t=some inf) (hs:inf.size=n) (hx:Ay x x'=true) (hy:Ay y y'=true)
 (e:Af (.storeH n x' y') st=some (v,bx,hp)):Out P o a ι0 σ0 w0 w st.sl v bx hp:=by
 have rx:=BB hx S
 have ry:=BB hy S
 simp only[Af] at e
 split at e
 . rename_i l q hxe
   rw[hxe] at rx;obtain⟨_,ex⟩:=IB rx;split at e
   . rename_i hc;obtain⟨c1,c2⟩:=hc;simp only[B9] at e;obtain⟨h',e1,e2⟩:=e;cases e2;unfold wr at e1;split at e1
     . rename_i blk hb;split at e1
       . rename_i hk;obtain⟨k1,k2⟩:=hk;cases e1;have rc:=Rq ry c2;obtain⟨s1,s2⟩:=ry.cells c2
         have hone:∀ u∈(a.eval y).cells.toList,u.oneCell'=true:=by
          intro u hu;obtain⟨k,hk⟩:=JB hu
          have hlt:k<(y'.ev st.sl).cells.length:=by
           have:=(List.getElem?_eq_some_iff.1 hk).1;simp at this;omega
          obtain⟨g1,z,g2,g3⟩:=rc.2 k _ (Bf hlt);rw[hk] at g2;cases g2;exact(g3 β).oneCell g1
         obtain⟨z0,arr,el,harr,hsz,hrc⟩:=H.ownCells hb k1;have hle:=hrc.1;simp at hle;rw[z0,Cf] at ex;have hrun:=ie (P:=P) hi hs harr (x:=a.eval y) (off:=q) (by rw[s1,c1]) (by omega) hone
         have hL:(a.eval y).cells.toList.length=n:=by simp;omega
         have hnew:=hrc.splice rc (o:=q) (by simp[s1]) (by omega);rw[hL] at hnew;have K:=Wm ι st.hp l blk { blk with cs:=splice blk.cs q (y'.ev st.sl).cells } hb rfl
         have hset:∀ (j:Nat) (b:Blk),(st.hp.set l { blk with cs:=splice blk.cs q (y'.ev st.sl).cells })[j]?=some b->(j=l/\b={ blk with cs:=splice blk.cs q (y'.ev st.sl).cells })\/(j≠l/\st.hp[j]?=some b):=by
          intro j b hj;rcases Hu hj with⟨h1,h2,_⟩|h
          . exact .inl ⟨h1,h2⟩
          . exact .inr h
         have hoth:∀ (j:Nat) (b:Blk),j≠l->st.hp[j]?=some b->b.k≠.dead->(ι j).b≠(ι l).b:=λ j b hjl hj hbk=>λ g=>H.apart l j blk b (Hv hjl) hb hj k1 hbk g.symm
         have hsize:((arr.toList.take q++(a.eval y).cells.toList++arr.toList.drop (q+n)).toArray).size=arr.size:=by simp;omega
         refine⟨.skip,Go.undef,w.setRow (ι l).b (arr.toList.take q++(a.eval y).cells.toList++arr.toList.drop (q+n)).toArray,ι,β,by simp only[execOp,ho,ex,D2,hrun,Dk];rfl,.inr ⟨rfl,rfl⟩,⟨λ j b hj hbk i u hu=>?_,λ j b hj hbk=>?_,λ j j' b b' hne hj hj' hbk hbk'=>?_,λ j b hj hbk=>?_⟩,?_,S.mono K,.undef _,?_⟩
         . rcases hset j b hj with⟨rfl,rfl⟩|⟨hjl,hj⟩
           . obtain⟨g1,z,g2,g3⟩:=hnew.2 i u hu;refine⟨g1,z,?_,λ β=>(g3 β).cellMono K g1⟩;rw[z0,Cf];simp only[World.cell?,V4 harr];simpa using g2
           . obtain⟨g1,z,g2,g3⟩:=H.cells j b hj hbk i u hu;exact⟨g1,z,by rw[WY (w:=w) (Jo (hoth j b hjl hj hbk))];exact g2,λ β=>(g3 β).cellMono K g1⟩
         . rcases hset j b hj with⟨rfl,rfl⟩|⟨hjl,hj⟩
           . exact⟨z0,by simp[GZ];omega,_,el,V4 harr,by rw[hsize,hsz]⟩
           . obtain⟨g1,g2,arr',e',g3,g4⟩:=H.own j b hj hbk;exact⟨g1,g2,arr',e',by rw[Jo (hoth j b hjl hj (by rw[hbk];decide))];exact g3,g4⟩
         . rcases hset j b hj with⟨rfl,rfl⟩|⟨hjl,hg⟩<;>rcases hset j' b' hj' with⟨rfl,rfl⟩|⟨hjl',hg'⟩
           . exact absurd rfl hne
           . exact H.apart _ _ _ _ hne hb hg' k1 hbk'
           . exact H.apart _ _ _ _ hne hg hb hbk (by rw[k1];decide)
           . exact H.apart j j' b b' hne hg hg' hbk hbk'
         . rw[LK];rcases hset j b hj with⟨rfl,rfl⟩|⟨hjl,hj⟩
           . exact H.there _ _ hb hbk
           . exact H.there j b hj hbk
         . refine B.mono K (λ i cs hi hne=>Jo (λ g=>B.heap i cs l blk hi hne hb (by rw[k1];decide) g.symm)) (by rw[LK];exact BI _) λ i cs j b hi hne hj hbk=>?_
           rcases hset j b hj with⟨rfl,rfl⟩|⟨hjl,hj⟩
           . exact B.heap i cs _ blk hi hne hb hbk
           . exact B.heap i cs j b hi hne hj hbk
         . refine T.trans { keeps:=K,kinds:=λ j b b' hj hj'=>?_,fresh:=λ j b' hle' hj hbk=>?_,frame:=λ b hb' hf=>Jo (λ g=>hf l blk hb k1 g.symm),size:=by rw[LK];exact BI _,os:=rfl,output:=rfl,tape:=rfl }
           . rcases hset j b' hj' with⟨rfl,rfl⟩|⟨hjl,hj'⟩
             . rw[hb] at hj;cases hj;exact .inl rfl
             . rw[hj] at hj';cases hj';exact .inl rfl
           . rcases hset j b' hj with⟨rfl,rfl⟩|⟨hjl,hj⟩
             . have:=Ce hb;omega
             . have:=Ce hj;omega
       . cases e1
     . cases e1
   . cases e
 . cases e
end
structure Src (P:Program) (w:World) (size:Nat) (x:Value) (n:Nat) (new:List Value):Prop where
 len:∀ w',(Builtin.lenOf x).run P w'= .ok n w'
 cells:(Builtin.firstCells size n x).run P w= .ok new.toArray w
 cells':(Builtin.firstCells size n x).run P w.drew= .ok new.toArray w.drew
 size:new.length=n*size
section
variable {P:Program} {w:World} {t0 t1 ty el:TypeId} {inf:TypeInfo} {d1:TypeDesc}
 (ht:P.underlying t0=some (.slice el)) (hi:P.info? el=some inf) (ht1:P.underlying t1=some d1) (hd1:(∃ e,d1= .slice e)\/d1= .string)
include ht hi ht1 hd1
theorem Zz{base:Option Addr}{sLen sCap:Nat}{x:Value}(hs:Src P w inf.size x 0 [])(hle:sLen<=sCap) :
 (Builtin.append_ #[t0,t1] ty #[.slice base sLen sCap,x]).run P w= .ok (.slice base sLen sCap) w:=by
 have hst:∀ a:Addr,(storeCells a ([]:List Value)).run P w= .ok () w:=λ a=>by simp[storeCells]
 rcases hd1 with⟨e1,rfl⟩|rfl<;>cases base<;>simp[Builtin.append_,C8 ht,C8 ht1,F6 hi,hs.len,hs.cells,hle,storeCells]
theorem xf {b off sLen sCap n:Nat} {x:Value} {new:List Value} {arr:Array Value} {e:TypeId} (hs:Src P w inf.size x n new) (hb:w.heap[b]?=some (.cells arr e (0,0))) (hroom:sLen+n<=sCap)
 (hfit:off+sLen*inf.size+new.length<=arr.size) (h1:∀ u∈new,u.oneCell'=true) :
 (Builtin.append_ #[t0,t1] ty #[.slice (some ⟨b,off,none⟩) sLen sCap,x]).run P w=
  .ok (.slice (some ⟨b,off,none⟩) (sLen+n) sCap) (w.setRow b (arr.toList.take (off+sLen*inf.size)++new++arr.toList.drop (off+sLen*inf.size+new.length)).toArray):=by
 have hst:=run_storeCells_at P b (off+sLen*inf.size) e new 0 arr w hb (by simpa using hfit) h1
 simp only[HF] at hst
 rcases hd1 with⟨e1,rfl⟩|rfl<;>simp[Builtin.append_,C8 ht,C8 ht1,F6 hi,hs.len,hs.cells,hroom,LO,hst]
theorem xi {z:Value} (hz:inf.zero=some z) {base:Option Addr} {sLen sCap n:Nat} {x:Value} {old new:List Value} (hs:Src P w inf.size x n new) (hold:(Builtin.firstCells inf.size sLen (.slice base sLen sCap)).run P w.drew= .ok old.toArray w.drew)
 (hg:sCap<sLen+n) (hsm:sLen+n<=2^40) (hby:inf.bytes<=128) :
 (Builtin.append_ #[t0,t1] ty #[.slice base sLen sCap,x]).run P w=
  .ok (.slice (some ⟨w.heap.size,0,none⟩) (sLen+n) (grownCap w (sLen+n) sCap el)) (w.drew.alloc (.cells (old.toArray++new.toArray++Builtin.zeroCells z.cells (grownCap w (sLen+n) sCap el-(sLen+n))) el)):=by
 have hn:¬ (sLen+n<=sCap):=by omega
 have h63':¬ (9223372036854775807<((sLen:Int)+(n:Int))):=by omega
 have h48':¬ (281474976710656<Builtin.nextslicecap (sLen+n) sCap*inf.bytes):=by
  have h1:=nextslicecap_le hg;have h2:Builtin.nextslicecap (sLen+n) sCap*inf.bytes<=(2*(sLen+n))*128:=Nat.mul_le_mul h1 hby;omega
 rcases hd1 with⟨e1,rfl⟩|rfl
 all_goals
  simp[Builtin.append_,C8 ht,C8 ht1,F6 hi,Sq hi hz,cQ hi,hs.len,hs.cells',hold,hn,h63',h48',Question.forced,newRow,grownCap]
  congr 2
  apply Array.ext'
  simp[Co]
end
theorem ZaR{P:Program}{ι:AA}{β:Nat->Nat}{st:St}{w:World}(H:HRel ι st.hp w){ww k:Nat}{y:V}{yv:Value}{new:List V}(ry:Rel ι st.hp β y yv)(e:Ed st.hp ww y=some (new,k)) :
 ∃ ns:List Value,Src P w ww yv k ns/\RelCells ι st.hp new ns/\new.length=k*ww:=by
 have sl:∀ (a:Addr) (n c:Nat) (cs:List V) (ws:List Value),yv= .slice (some a) n c->ws.length=n*ww->cs.length=n*ww->(∀ u,u∈cs->u.cell=true)->(∀ (j:Nat) y,ws[j]?=some y->w.cell? (a.add j)=some y) ->
  (∀ (j:Nat) u y,cs[j]?=some u->ws[j]?=some y->∀ β',Rel ι st.hp β' u y)->Src P w ww yv n ws/\RelCells ι st.hp cs ws:=by
  intro a n c cs ws ey h1 h2 h3 h4 h5
  have l1:=Rt (P:=P) h4
  have l2:=Rt (P:=P) (w:=w.drew) (ad:=a) (cs:=ws) (λ j v hv=>h4 j v hv)
  rw[h1] at l1 l2
  subst ey
  refine⟨⟨λ w'=>rfl,l1,l2,h1⟩,by omega,λ i v hv=>?_⟩
  have hlt:i<ws.length:=by have:=(List.getElem?_eq_some_iff.1 hv).1;omega
  exact⟨h3 v (HG hv),ws[i],Bf hlt,h5 i v _ hv (Bf hlt)⟩
 unfold Ed at e
 split at e
 . cases e
   obtain⟨b,rfl⟩:=Py ry;refine⟨[],⟨λ w'=>rfl,?_,?_,by simp⟩,⟨BI _,by simp⟩,by simp⟩
   . cases b<;>simp[Builtin.firstCells,loadCells,loadCellsFrom]
   . cases b<;>simp[Builtin.firstCells,loadCells,loadCellsFrom]
 . rename_i l q n
   simp only[B8] at e;obtain⟨cs,e1,e2⟩:=e;cases e2;obtain⟨ws,q1,q2,q3,q4,q5⟩:=WC H e1;obtain⟨blk,hb,hcase⟩:=G1 ry;rcases hcase with⟨c,ex,_⟩|⟨rfl,b,ex⟩
   . obtain⟨r1,r2⟩:=sl _ k c _ ws ex q1 q2 q3 q4 q5;exact⟨ws,r1,r2,q2⟩
   . have hws:ws=[]:=List.length_eq_zero_iff.1 (by rw[q1];simp);have hcs:new=[]:=List.length_eq_zero_iff.1 (by rw[q2];simp);subst ex;subst hcs;refine⟨[],⟨λ w'=>rfl,?_,?_,by simp⟩,⟨BI _,by simp⟩,by simp⟩
     . cases b<;>simp[Builtin.firstCells,loadCells,loadCellsFrom]
     . cases b<;>simp[Builtin.firstCells,loadCells,loadCellsFrom]
 . rename_i s
   split at e
   . rename_i hw1;cases e;subst hw1;have ex:=PK ry;subst ex;have hz:(ByteArray.mk s.toArray).size=s.length:=Xk
     have hext:(ByteArray.mk s.toArray).extract 0 s.length=⟨s.toArray⟩:=by
      apply ByteArray.ext;simp
     refine⟨s.map λ b=>.int .u8 b.toNat,⟨λ w'=>by simp[Builtin.lenOf,hz],?_,?_,by simp⟩,⟨by simp,λ i v hv=>?_⟩,by simp⟩
     . simp[Builtin.firstCells,hext]
     . simp[Builtin.firstCells,hext]
     . simp only[HD,B8] at hv;obtain⟨b,hb,rfl⟩:=hv;exact⟨rfl,.int .u8 b.toNat,by simp[hb],λ β=>.int _ _⟩
   . cases e
 . cases e
section
variable {P:Program} {o:Oper} {a:Act} {ι:AA} {β:Nat->Nat} {st:St} {w0 w:World} {v:V} {bx:List (List V)} {hp:Ad}
 (H:HRel ι st.hp w) (B:BRel ι st.hp β st.bx w0 w) (S:SRel ι st.hp β st.sl a.tmps) {ι0:AA} {σ0:Ad} (T:Step ι0 σ0 w0 ι st.hp w)
include H B S T
theorem XD {c : Call} {t0 t1:TypeId} {ww:Nat} {x y:Operand} {x' y':Opnd} {d1:TypeDesc} (ho:o.op= .call c) (hc:c.callee= .builtin .append) (hargs:c.args=#[x,y]) (hts:c.argTypes=#[t0,t1]) (hw:IL P t0 ww=true)
 (ht1:P.underlying t1=some d1) (hd1:(∃ e,d1= .slice e)\/d1= .string) (hx:Ay x x'=true) (hy:Ay y y'=true) (e:Af (.app ww x' y') st=some (v,bx,hp)):Out P o a ι0 σ0 w0 w st.sl v bx hp:=by
 have rx:=BB hx S
 have ry:=BB hy S
 obtain⟨el,inf,z,g1,g2,g3,g4,g5,g6⟩:=VW hw
 have run:∀ {r:Value} {w':World},(Builtin.append_ #[t0,t1] o.type #[a.eval x,a.eval y]).run P w= .ok r w'->(execOp a.eval o).run P w= .ok (.value r) w':=by
  intro r w' h;rw[Rw ho hc];simp[builtin,hargs,hts,h]
 simp only[Af] at e
 split at e
 . rename_i hw0
   simp only[B9] at e;obtain⟨⟨u,h'⟩,e1,e2⟩:=e;cases e2;unfold app at e1;split at e1
   . cases e1
   . rename_i new k hsrc;obtain⟨ns,hS,hR,hlen⟩:=ZaR (P:=P) H ry hsrc
     have hS':Src P w inf.size (a.eval y) k ns:=by rw[g3];exact hS
     have hns:ns.length=k*ww:=hS.size
     have grow:∀ (base:Option Addr) (sLen sCap:Nat) (σ':Ad) (old:List V) (AB:List Value),a.eval x= .slice base sLen sCap->sCap<sLen+k->(sLen+k)*ww<=2^40->old.length=sLen*ww->AB.length=sLen*ww ->
      (Builtin.firstCells inf.size sLen (.slice base sLen sCap)).run P w.drew= .ok AB.toArray w.drew->HRel ι σ' w->BRel ι σ' β st.bx w0 w->SRel ι σ' β st.sl a.tmps->Step ι0 σ0 w0 ι σ' w->RelCells ι σ' old AB->RelCells ι σ' new ns ->
      Out P o a ι0 σ0 w0 w st.sl (.slice σ'.length 0 (sLen+k)) st.bx (σ'++[⟨.own,ww,old++new⟩]):=by
      intro base sLen sCap σ' old AB ex hg hsm ho1 ho2 hold H' B' S' T' hro hrn
      have hle:sLen+k<=2^40:=JC (Nat.le_mul_of_pos_right _ hw0) hsm
      have hrun:=xi (ty:=o.type) g1 g2 ht1 hd1 g5 hS' hold hg hle g4
      rw[<- ex] at hrun
      have hcapge:=grownCap_ge w (sLen+k) sCap el
      have hsz:(AB.toArray++ns.toArray++Builtin.zeroCells z.cells (grownCap w (sLen+k) sCap el-(sLen+k))).size=grownCap w (sLen+k) sCap el*ww:=by
       simp only[Array.size_append,size_zeroCells,g6,Xk,ho2,hns];rw[<- EJ,<- EJ];congr 1;omega
      have hrc:RelCells ι σ' (old++new) (AB.toArray++ns.toArray++Builtin.zeroCells z.cells (grownCap w (sLen+k) sCap el-(sLen+k))).toList:=by
       refine⟨?_,λ i u hu=>?_⟩
       . simp[ho1,ho2,hlen,hns]
       . by_cases hi:i<old.length
         . rw[Bx hi] at hu;obtain⟨q1,x1,q2,q3⟩:=hro.2 i u hu;refine⟨q1,x1,?_,q3⟩;simp only[Array.toList_append,Co];rw[Bx (by omega)];exact q2
         . rw[Db (by omega)] at hu;have hi2:=(List.getElem?_eq_some_iff.1 hu).1;obtain⟨q1,x1,q2,q3⟩:=hrn.2 _ u hu;refine⟨q1,x1,?_,q3⟩;simp only[Array.toList_append,Co];rw[Db (by omega),Bx (by omega)]
           have:i-AB.length=i-old.length:=by omega
           rw[this];exact q2
      obtain⟨r1,r2,r3,r4⟩:=RO H'.drew B'.drew S' (AB.toArray++ns.toArray++Builtin.zeroCells z.cells (grownCap w (sLen+k) sCap el-(sLen+k))) el ww (old++new) hrc
      refine⟨_,_,_,_,β,run hrun,.inl rfl,r1,r2,r3,?_,(T'.trans (Step.drew _ _ _)).trans r4⟩
      have:=Rel.slice (ι:=upd ι σ'.length ⟨w.drew.heap.size,0,(AB.toArray++ns.toArray++Builtin.zeroCells z.cells (grownCap w (sLen+k) sCap el-(sLen+k))).size⟩) (σ:=σ'++[⟨.own,ww,old++new⟩]) (β:=β)
       σ'.length 0 (sLen+k) (grownCap w (sLen+k) sCap el) ⟨.own,ww,old++new⟩ (by simp) hcapge (by rw[CI,hsz];simp) (by first|assumption|(simp only;omega))
      rwa [CI] at this
     have none0:k=0->ns=[]:=λ h=>List.length_eq_zero_iff.1 (by rw[hns,h];simp)
     split at e1
     ·
      rename_i hxe;rw[hxe] at rx;obtain⟨b,ex⟩:=Py rx;split at e1
      . rename_i hk;cases e1;subst hk;have hnn:=none0 rfl;subst hnn;have hrun:=Zz (ty:=o.type) g1 g2 ht1 hd1 (base:=b) (sLen:=0) (sCap:=0) hS' (BI _);rw[<- ex] at hrun;exact Out.pure H B S T (run hrun) rx rfl
      . split at e1
        . rename_i hk hroom;cases e1;unfold Av at hroom;have:=grow b 0 0 st.hp [] [] ex (by omega) (by simpa using hroom) (by simp) (by simp) (by cases b<;>simp[Builtin.firstCells,loadCells,loadCellsFrom]) H B S T ⟨BI _,by simp⟩ hR;simpa using this
        . cases e1
     . rename_i l q n hxe;rw[hxe] at rx;obtain⟨blk,hb,hcase⟩:=G1 rx;split at e1
       ·
        rename_i hk;cases e1;subst hk;have hnn:=none0 rfl;subst hnn;rcases hcase with⟨cc,ex,hn,_⟩|⟨rfl,b,ex⟩
        . have hrun:=Zz (ty:=o.type) g1 g2 ht1 hd1 (base:=some ⟨(ι l).b,(ι l).o+q,none⟩) hS' hn;rw[<- ex] at hrun;exact Out.pure H B S T (run hrun) rx rfl
        . have hrun:=Zz (ty:=o.type) g1 g2 ht1 hd1 (base:=b) (sLen:=0) (sCap:=0) hS' (BI _);rw[<- ex] at hrun;exact Out.pure H B S T (run hrun) rx rfl
       . rename_i hk;rw[hb] at e1;simp only at e1;split at e1
         . rename_i hcond;obtain⟨k1,k2,k3,k4,k5⟩:=hcond;cases e1;unfold Av at k5;subst k3;subst k2;obtain⟨z0,arr,e0,harr,hsz,hrc⟩:=H.ownCells hb k1;have hrle:=hrc.1;simp only[Array.length_toList] at hrle
           have K:=Wm ι st.hp l blk ⟨.dead,blk.w,[]⟩ hb rfl;have Hk:=H.kill hb;have Sk:=S.mono K
           have Bk:BRel ι (st.hp.set l ⟨.dead,blk.w,[]⟩) β st.bx w0 w:=B.mono K (λ _ _ _ _=>rfl) (BI _) λ i cs j b hi hne hj hbk=>by
            rcases Hu hj with⟨_,rfl,_⟩|⟨_,hj⟩
            . exact absurd rfl hbk
            . exact B.heap i cs j b hi hne hj hbk
           have Tk:Step ι0 σ0 w0 ι (st.hp.set l ⟨.dead,blk.w,[]⟩) w:=T.trans
            { keeps:=K
              kinds:=λ j b b' hj hj'=>by
               rcases Hu hj' with⟨rfl,rfl,_⟩|⟨_,hj'⟩
               . rw[hb] at hj;cases hj;exact .inr ⟨k1,rfl⟩
               . rw[hj] at hj';cases hj';exact .inl rfl
              fresh:=λ j b' hle' hj hbk=>by
               rcases Hu hj with⟨_,rfl,_⟩|⟨_,hj⟩
               . exact absurd rfl hbk
               . have:=Ce hj;omega
              frame:=λ _ _ _=>rfl
              size:=BI _
              os:=rfl
              output:=rfl
              tape:=rfl }
           have hcl:(blk.cs.take (n*blk.w)).length=n*blk.w:=by simp;omega
           have hrt:RelCells ι (st.hp.set l ⟨.dead,blk.w,[]⟩) (blk.cs.take (n*blk.w)) (arr.toList.take (n*blk.w)):=by
            refine⟨by simp;omega,λ i u hu=>?_⟩;rw[IJ] at hu;split at hu
            . rename_i hi;obtain⟨q1,x1,q2,q3⟩:=hrc.2 i u hu;exact⟨q1,x1,by rw[IJ,Ac hi];exact q2,λ β=>(q3 β).cellMono K q1⟩
            . cases hu
           have hRk:=hR.mono K;rcases hcase with⟨cc,ex,hn,hcc⟩|⟨rfl,b,ex⟩
           . rw [z0] at ex;simp only[Cf] at ex hcc;by_cases hroom:n+k<=cc
             ·
              have hfit:0+n*inf.size+ns.length<=arr.size:=by
               rw[g3,hns,hsz,Cf,<- EJ];exact JC (KR _ hroom) hcc
              have hone:∀ u∈ns,u.oneCell'=true:=by
               intro u hu;obtain⟨i,hi⟩:=JB hu
               have hlt:i<new.length:=by have:=(List.getElem?_eq_some_iff.1 hi).1;omega
               obtain⟨q1,x1,q2,q3⟩:=hR.2 i _ (Bf hlt);rw[hi] at q2;cases q2;exact(q3 β).oneCell q1
              have hrun:=xf (ty:=o.type) g1 g2 ht1 hd1 hS' harr hroom hfit hone;rw[<- ex] at hrun;rw[g3,Cf] at hrun
              have hfree:∀ (j:Nat) (b:Blk),(st.hp.set l ⟨.dead,blk.w,[]⟩)[j]?=some b->b.k≠.dead->(ι j).b≠(ι l).b:=by
               intro j b hj hbk;rcases Hu hj with⟨_,rfl,_⟩|⟨hjl,hj⟩
               . exact absurd rfl hbk
               . exact λ g=>H.apart l j blk b (Hv hjl) hb hj k1 hbk g.symm
              have hsz2:((arr.toList.take (n*blk.w)++ns++arr.toList.drop (n*blk.w+ns.length)).toArray).size=arr.size:=by
               rw[g3,Cf] at hfit;simp;omega
              have hrc2:RelCells ι (st.hp.set l ⟨.dead,blk.w,[]⟩) (blk.cs.take (n*blk.w)++new) (arr.toList.take (n*blk.w)++ns++arr.toList.drop (n*blk.w+ns.length)).toArray.toList:=by
               have hal:(arr.toList.take (n*blk.w)).length=n*blk.w:=by simp;omega
               refine⟨by simp;omega,λ i u hu=>?_⟩;by_cases hi:i<(blk.cs.take (n*blk.w)).length
               . rw[Bx hi] at hu;obtain⟨q1,x1,q2,q3⟩:=hrt.2 i u hu;refine⟨q1,x1,?_,q3⟩;simp only[Co];rw[Bx (by omega)];exact q2
               . rw[Db (by omega)] at hu;have hi2:=(List.getElem?_eq_some_iff.1 hu).1;obtain⟨q1,x1,q2,q3⟩:=hRk.2 _ u hu;refine⟨q1,x1,?_,q3⟩;simp only[Co];rw[Db (by omega),Bx (by omega),hal];rw[hcl] at q2;exact q2
              have Had:=(Hk.setRow (arr':=(arr.toList.take (n*blk.w)++ns++arr.toList.drop (n*blk.w+ns.length)).toArray) hfree).adopt (wd:=blk.w) (V4 harr) hfree hrc2;have KP:=Ry ι (st.hp.set l ⟨.dead,blk.w,[]⟩) ⟨(ι l).b,0,(arr.toList.take (n*blk.w)++ns++arr.toList.drop (n*blk.w+ns.length)).toArray.size⟩ ⟨.own,blk.w,blk.cs.take (n*blk.w)++new⟩
              have hslen:(st.hp.set l ⟨.dead,blk.w,[]⟩).length=st.hp.length:=by simp
              refine⟨_,_,_,_,β,run hrun,.inl rfl,Had,?_,Sk.mono KP,?_,?_⟩
              . refine Bk.mono KP (λ i cs hi hne=>Jo (λ g=>B.heap i cs l blk hi hne hb (by rw[k1];decide) g.symm)) (by rw[LK];exact BI _) λ i cs j b hi hne hj hbk=>?_
                rcases Gq hj with⟨hlt,hj⟩|⟨rfl,rfl⟩
                . rw[DJ _ _ _ _ (by omega)];exact Bk.heap i cs j b hi hne hj hbk
                . rw[CI];exact B.heap i cs l blk hi hne hb (by rw[k1];decide)
              . have:=Rel.slice (ι:=upd ι (st.hp.set l ⟨.dead,blk.w,[]⟩).length ⟨(ι l).b,0,(arr.toList.take (n*blk.w)++ns++arr.toList.drop (n*blk.w+ns.length)).toArray.size⟩)
                 (σ:=(st.hp.set l ⟨.dead,blk.w,[]⟩)++[⟨.own,blk.w,blk.cs.take (n*blk.w)++new⟩]) (β:=β) (st.hp.set l ⟨.dead,blk.w,[]⟩).length 0 (n+k) cc ⟨.own,blk.w,blk.cs.take (n*blk.w)++new⟩ (by rw[Db (BI _)];simp) hroom
                 (by rw[CI];simp only[hsz2,hsz];omega) (by first|assumption|(simp only;omega))
                rw[CI] at this;simpa [hslen] using this
              . refine T.trans { keeps:=K.trans KP,kinds:=λ j b b' hj hj'=>?_,fresh:=λ j b' hle' hj hbk=>?_,frame:=λ b hb' hf=>Jo (λ g=>hf l blk hb k1 g.symm),size:=by rw[LK];exact BI _,os:=rfl,output:=rfl,tape:=rfl }
                . rcases Gq hj' with⟨hlt,hj'⟩|⟨rfl,rfl⟩
                  . rcases Hu hj' with⟨rfl,rfl,_⟩|⟨_,hj'⟩
                    . rw[hb] at hj;cases hj;exact .inr ⟨k1,rfl⟩
                    . rw[hj] at hj';cases hj';exact .inl rfl
                  . have:=Ce hj;omega
                . rcases Gq hj with⟨hlt,hj⟩|⟨rfl,rfl⟩
                  . omega
                  . rw[CI];exact⟨rfl,.inr ⟨l,blk,hb,k1,rfl⟩⟩
             ·
              have hol:(arr.toList.take (n*blk.w)).length=n*blk.w:=by simp;omega
              have hload:∀ w':World,w'.heap=w.heap->(Builtin.firstCells inf.size n (.slice (some ⟨(ι l).b,0,none⟩) n cc)).run P w'= .ok (arr.toList.take (n*blk.w)).toArray w':=by
               intro w' hw'
               have:=Rt (P:=P) (w:=w') (ad:=⟨(ι l).b,0,none⟩) (cs:=arr.toList.take (n*blk.w)) (λ j u hu=>by
                rw[LO,Cf];rw[IJ] at hu;split at hu
                . simp only[World.cell?,hw',harr];simpa using hu
                . cases hu)
               rw[hol] at this;simp only[Builtin.firstCells,g3];exact this
              have:=grow _ n cc (st.hp.set l ⟨.dead,blk.w,[]⟩) (blk.cs.take (n*blk.w)) (arr.toList.take (n*blk.w)) ex (by omega) k5 hcl hol (hload _ rfl) Hk Bk Sk Tk hrt hRk;simpa using this
           ·
            have h0:(blk.cs.take (0*blk.w))=[]:=by simp
            have:=grow b 0 0 (st.hp.set l ⟨.dead,blk.w,[]⟩) [] [] ex (by omega) (by simpa using k5) (by simp) (by simp) (by cases b<;>simp[Builtin.firstCells,loadCells,loadCellsFrom]) Hk Bk Sk Tk ⟨BI _,by simp⟩ hRk;simpa [h0] using this
         . cases e1
     . cases e1
 . cases e
end
def isSome(o:Option TypeDesc):Bool:=match o with|some _=>true|none=>false
def Ml(o:Option TypeDesc):Bool:=match o with|some .string=>true|_=>false
def bF(o:Option TypeDesc):Bool:=match o with|some .bool=>true|_=>false
def dO(o:Option TypeDesc):Bool:=match o with|some (.interface _)=>true|_=>false
def XT(o:Option TypeDesc)(k:IntKind):Bool:=match o with|some (.int k')=>k' == k|_=>false
def Tg(o:Option TypeDesc):Bool:=match o with|some (.slice _)=>true|_=>false
def aK(P:Program)(t:TypeId)(f off:Nat):Bool:=
 L0 P t f off none||(match P.underlying t with|some (.struct fs)=>(match fs[f]? with|some g=>L0 P t f off (some (P.cellsOf g.type))|none=>false)|_=>false)
def bW(P:Program)(t:TypeId)(parts:Array (Nat×Operand))(zs:List V)(ps:List (Nat×Nat×Opnd)):Bool:=
 match P.underlying t with
 |some (.struct fs)=>(fs.toList.all λ f=>(P.info? f.type).isSome)&&II P t zs&&Hy (O5 P fs) parts.toList ps
 |_=>false
def dP(P:Program)(t:TypeId)(n:Nat)(parts:Array (Nat×Operand))(w:Nat)(zs:List V)(ps:List (Nat×Nat×Opnd)):Bool:=
 match P.underlying t with
 | some (.slice e)=>(match P.info? e with
   | some i=>(match i.zero with
     |some z=>i.size == w&&decide (n*w<=2^24)&&Gt (madeCells z.cells (n*w)).toList zs&&Hy (λ i=>some (i*w,w)) parts.toList ps&&(n != 0||ps.isEmpty)
     |none=>false)
   |none=>false)
 |_=>false
def oT(P:Program)(t:TypeId)(w:Nat)(zs:List V):Bool:=
 IL P t w&&(match P.underlying t with|some (.slice e)=>II P e zs|_=>false)
def XG(P:Program)(t:TypeId)(n:Nat):Bool:=match P.info? t with|some i=>i.size == n|none=>false
def dD(P:Program)(t:TypeId)(n:Nat):Bool:=P.eqGuardType P.depth t == false&&(match Ld P 50 t with|some (some m)=>m == n|_=>false)
def nu(P:Program)(s d:TypeId):Bool:=Ml (P.underlying d)&&(match P.underlying s with|some (.slice e)=>XT (P.underlying e) .u8|_=>false)
def KI(P:Program)(b:Builtin)(args:List Operand)(ts:List TypeId):AOp->Bool
 |.len y=>(match b,args,ts with|.len,[x],[t]=>Tg (P.underlying t)&&Ay x y|_,_,_=>false)
 |.lenT y=>(match b,args,ts with|.len,[x],[t]=>Ml (P.underlying t)&&Ay x y|_,_,_=>false)
 |.minI x' y'=>(match b,args with|.min,[x,y]=>Ay x x'&&Ay y y'|_,_=>false)
 |.maxI x' y'=>(match b,args with|.max,[x,y]=>Ay x x'&&Ay y y'|_,_=>false)
 |.app w x' y'=>(match b,args,ts with|.append,[x,y],[t0,t1]=>IL P t0 w&&(Tg (P.underlying t1)||Ml (P.underlying t1))&&Ay x x'&&Ay y y'|_,_,_=>false)
 |.appN w x' y'=>(match b,args,ts with|.append,[x,y],[t0,t1]=>IL P t0 w&&(Tg (P.underlying t1)||Ml (P.underlying t1))&&Ay x x'&&Ay y y'|_,_,_=>false)
 |_=>false
def Fh(P:Program):Op->AOp->Bool
 |.move x,.mv y=>Ay x y
 |.assign x,.mv y=>Ay x y
 |.nilCheck x,.nilck y=>Ay x y
 |.pick c x y,.pick c' x' y'=>Ay c c'&&Ay x x'&&Ay y y'
 |.alloc t,.allocB _ zs=>II P t zs
 |.alloc t,.allocH zs=>II P t zs
 |.box _ x,.boxB _ _ y=>Ay x y
 |.box _ x,.boxH _ y=>Ay x y
 |.build t parts,.build zs ps=>bW P t parts zs ps
 |.makeSlice t l c,.mkSlice w zs y=>oT P t w zs&&Ay l y&&Ay c y
 |.buildSlice t n parts,.litSlice w m zs ps=>n == m&&dP P t n parts w zs ps
 |.load t x,.loadB _ n y=>HM P t n&&Ay x y
 |.load t x,.loadH n y=>HM P t n&&Ay x y
 |.load t x,.loadX _ _ n y=>HM P t n&&Ay x y
 |.store t x y,.storeB _ n x' y'=>XG P t n&&Ay x x'&&Ay y y'
 |.store t x y,.storeH n x' y'=>XG P t n&&Ay x x'&&Ay y y'
 |.binOp op _ x y _,.bin op' x' y'=>op == op'&&Ay x x'&&Ay y y'
 |.binOp op t x y _,.eqB neg x' y'=>op == (if neg then .neq else .eql)&&bF (P.underlying t)&&Ay x x'&&Ay y y'
 |.binOp op t x y _,.eqN neg x' y'=>op == (if neg then .neq else .eql)&&dO (P.underlying t)&&Ay x x'&&Ay y y'
 |.binOp op t x y _,.eqA n neg x' y'=>op == (if neg then .neq else .eql)&&dD P t n&&Ay x x'&&Ay y y'
 |.unOp op _ x,.un op' y=>op == op'&&Ay x y
 |.convert s d x,.conv k y=>isSome (P.underlying s)&&XT (P.underlying d) k&&Ay x y
 |.convert s d x,.bstr y=>nu P s d&&Ay x y
 |.slice t x lo hi none,.slice w y lo' hi'=>IL P t w&&Ay x y&&Hm lo lo'&&Hm hi hi'
 |.slice t x lo hi none,.substr y lo' hi'=>Ml (P.underlying t)&&Ay x y&&Hm lo lo'&&Hm hi hi'
 |.fieldAddr t x f,.fieldA off y=>aK P t f off&&Ay x y
 |.field t x f,.field off n y=>L0 P t f off n&&Ay x y
 |.indexAddr t x i,.indexA w x' i'=>IL P t w&&Ay x x'&&Ay i i'
 |.index t x i,.index x' i'=>Ml (P.underlying t)&&Ay x x'&&Ay i i'
 |.extract x i,.extract y j=>i == j&&Ay x y
 |.call c,ao=>(match c.callee with|.builtin b=>KI P b c.args.toList c.argTypes.toList ao|_=>false)
 |_,_=>false
theorem O7{o:Option TypeDesc}(h:Ml o=true):o=some .string:=by unfold Ml at h;split at h<;>first|rfl|cases h
theorem xh{o:Option TypeDesc}(h:bF o=true):o=some .bool:=by unfold bF at h;split at h<;>first|rfl|cases h
theorem yy{o:Option TypeDesc}(h:dO o=true):∃ ms,o=some (.interface ms):=by unfold dO at h;split at h<;>first|exact⟨_,rfl⟩|cases h
theorem js{o:Option TypeDesc}{k:IntKind}(h:XT o k=true):o=some (.int k):=by unfold XT at h;split at h<;>first|(simp at h;rw[h])|cases h
theorem ax{o:Option TypeDesc}(h:Tg o=true):∃ e,o=some (.slice e):=by unfold Tg at h;split at h<;>first|exact⟨_,rfl⟩|cases h
theorem xU{o:Option TypeDesc}(h:isSome o=true):o.isSome=true:=by unfold isSome at h;split at h<;>first|rfl|cases h
theorem vR{P:Program}{t:TypeId}{f off:Nat}(h:aK P t f off=true):∃ n,L0 P t f off n=true:=by
 unfold aK at h;rw[Cp] at h;rcases h with h|h
 . exact⟨_,h⟩
 . split at h
   . split at h
     . exact⟨_,h⟩
     . cases h
   . cases h
theorem xk{P:Program}{t:TypeId}{parts:Array (Nat×Operand)}{zs:List V}{ps:List (Nat×Nat×Opnd)}(h:bW P t parts zs ps=true) :
 ∃ fs,P.underlying t=some (.struct fs)/\(fs.toList.all λ f=>(P.info? f.type).isSome)=true/\II P t zs=true/\Hy (O5 P fs) parts.toList ps=true:=by
 unfold bW at h
 split at h
 . rename_i fs hf
   simp only[Ah] at h;exact⟨fs,hf,h.1.1,h.1.2,h.2⟩
 . cases h
theorem yE{P:Program}{t:TypeId}{n w:Nat}{parts:Array (Nat×Operand)}{zs:List V}{ps:List (Nat×Nat×Opnd)}(h:dP P t n parts w zs ps=true) :
 ∃ e i z,P.underlying t=some (.slice e)/\P.info? e=some i/\i.zero=some z/\i.size=w/\n*w<=2^24/\Gt (madeCells z.cells (n*w)).toList zs=true/\Hy (λ i=>some (i*w,w)) parts.toList ps=true/\(n=0->ps=[]):=by
 unfold dP at h
 split at h
 . rename_i e he
   split at h
   . rename_i i hi;split at h
     . rename_i z hz;simp only[Ah,A0,Ar,Cp,Sb,HB,List.isEmpty_iff] at h;obtain⟨⟨⟨⟨h1,h2⟩,h3⟩,h4⟩,h5⟩:=h;exact⟨e,i,z,he,hi,hz,h1,h2,h3,h4,λ h0=>h5.resolve_left (λ g=>g h0)⟩
     . cases h
   . cases h
 . cases h
theorem iH{P:Program}{t:TypeId}{n:Nat}(h:XG P t n=true):∃ i,P.info? t=some i/\i.size=n:=by
 unfold XG at h;split at h
 . rename_i i hi;exact⟨i,hi,by simpa using h⟩
 . cases h
theorem yH{P:Program}{t:TypeId}{n:Nat}(h:dD P t n=true):P.eqGuardType P.depth t=false/\Ld P 50 t=some (some n):=by
 unfold dD at h;simp only[Ah,A0] at h;refine⟨h.1,?_⟩;have h2:=h.2;split at h2
 . rename_i m hm;simp at h2;subst h2;exact hm
 . cases h2
theorem dc{op:BinOp}{neg:Bool}(h:(op == (if neg then .neq else .eql))=true):op=if neg then .neq else .eql:=by simpa using h
section
variable {P:Program} {o:Oper} {a:Act} {ι:AA} {β:Nat->Nat} {st:St} {w0 w:World} {v:V} {bx:List (List V)} {hp:Ad}
 (H:HRel ι st.hp w) (B:BRel ι st.hp β st.bx w0 w) (S:SRel ι st.hp β st.sl a.tmps) {ι0:AA} {σ0:Ad} (T:Step ι0 σ0 w0 ι st.hp w)
include H B S T
theorem ky{ao:AOp}(hk:Fh P o.op ao=true)(e:Af ao st=some (v,bx,hp)):Out P o a ι0 σ0 w0 w (ao.clears st.sl) v bx hp:=by
 unfold Fh at hk;split at hk
 . rename_i ho;exact ov H B S T (.inl ho) hk e
 . rename_i ho;exact ov H B S T (.inr ho) hk e
 . rename_i ho;exact Zbj H B S T ho hk e
 . rename_i ho;simp only[Ah] at hk;exact Zco H B S T ho hk.1.1 hk.1.2 hk.2 e
 . rename_i ho;exact zu H B S T ho hk e
 . rename_i ho;exact zh H B S T ho hk e
 . rename_i ho;exact Zci H B S T ho hk e
 . rename_i ho;exact ZbY H B S T ho hk e
 . rename_i ho;obtain⟨fs,h1,h2,h3,h4⟩:=xk hk;exact Zaz H B S T ho h1 h2 h3 h4 e
 . rename_i ho;simp only[Ah,oT] at hk;obtain⟨⟨⟨h1,h2⟩,h3⟩,h4⟩:=hk;split at h2
   . rename_i el hel;exact yA H B S T ho h1 hel h2 h3 h4 e
   . cases h2
 . rename_i ho;simp only[Ah,A0] at hk;obtain⟨h0,hk⟩:=hk;subst h0;obtain⟨el,i,z,h1,h2,h3,h4,h5,h6,h7,h8⟩:=yE hk;exact xx H B S T ho h1 h2 h3 h4 h5 h6 h7 h8 e
 . rename_i ho;simp only[Ah] at hk;exact ZaN H B S T ho hk.1 hk.2 e
 . rename_i ho;simp only[Ah] at hk;exact kC H B S T ho hk.1 hk.2 e
 . rename_i ho;simp only[Ah] at hk;exact kC H B S T ho hk.1 hk.2 (WK e).2
 . rename_i ho;simp only[Ah] at hk;obtain⟨i,h1,h2⟩:=iH hk.1.1;exact zp H B S T ho h1 h2 hk.1.2 hk.2 e
 . rename_i ho;simp only[Ah] at hk;obtain⟨i,h1,h2⟩:=iH hk.1.1;exact Zaf H B S T ho h1 h2 hk.1.2 hk.2 e
 . rename_i ho;simp only[Ah,A0] at hk;obtain⟨⟨rfl,h1⟩,h2⟩:=hk;exact Zc7 H B S T ho h1 h2 e
 . rename_i ho;simp only[Ah] at hk;exact Zc4 H B S T ho (dc hk.1.1.1) (xh hk.1.1.2) hk.1.2 hk.2 e
 . rename_i ho;simp only[Ah] at hk;obtain⟨ms,h⟩:=yy hk.1.1.2;exact Zc3 H B S T ho (dc hk.1.1.1) h hk.1.2 hk.2 e
 . rename_i ho;simp only[Ah] at hk;obtain⟨h1,h2⟩:=yH hk.1.1.2;exact Zc6 H B S T ho (dc hk.1.1.1) h1 h2 hk.1.2 hk.2 e
 . rename_i ho;simp only[Ah,A0] at hk;obtain⟨rfl,h1⟩:=hk;exact ZdU H B S T ho h1 e
 . rename_i ho;simp only[Ah] at hk;exact Zb3 H B S T ho (xU hk.1.1) (js hk.1.2) hk.2 e
 . rename_i ho;simp only[Ah,nu] at hk;obtain⟨⟨h1,h2⟩,h3⟩:=hk;split at h2
   . rename_i el hel;exact Zb4 H B S T ho hel (js h2) (O7 h1) h3 e
   . cases h2
 . rename_i ho;simp only[Ah] at hk;exact Za5 H B S T ho hk.1.1.1 hk.1.1.2 hk.1.2 hk.2 e
 . rename_i ho;simp only[Ah] at hk;exact zx H B S T ho (O7 hk.1.1.1) hk.1.1.2 hk.1.2 hk.2 e
 . rename_i ho;simp only[Ah] at hk;obtain⟨n,h⟩:=vR hk.1;exact zJ H B S T ho h hk.2 e
 . rename_i ho;simp only[Ah] at hk;exact ZaG H B S T ho hk.1 hk.2 e
 . rename_i ho;simp only[Ah] at hk;exact zi H B S T ho hk.1.1 hk.1.2 hk.2 e
 . rename_i ho;simp only[Ah] at hk;exact Zbh H B S T ho (O7 hk.1.1) hk.1.2 hk.2 e
 . rename_i ho;simp only[Ah,A0] at hk;obtain⟨rfl,h1⟩:=hk;exact yi H B S T ho h1 e
 . rename_i ho;split at hk
   . rename_i b hb
     have arr1:∀ {α:Type} {x:Array α} {l:List α},x.toList=l->x=l.toArray:=λ h=>by rw[<- h]
     unfold KI at hk;split at hk
     . split at hk
       . rename_i h1 h2;simp only[Ah] at hk;obtain⟨el,hel⟩:=ax hk.1;exact ZbO H B S T ho hb (arr1 h1) (arr1 h2) hel hk.2 e
       . cases hk
     . split at hk
       . rename_i h1 h2;simp only[Ah] at hk;exact Zcz H B S T ho hb (arr1 h1) (arr1 h2) (O7 hk.1) hk.2 e
       . cases hk
     . split at hk
       . rename_i h1;simp only[Ah] at hk;exact Zcw H B S T ho hb (arr1 h1) hk.1 hk.2 e
       . cases hk
     . split at hk
       . rename_i h1;simp only[Ah] at hk;exact Zcj H B S T ho hb (arr1 h1) hk.1 hk.2 e
       . cases hk
     . split at hk
       . rename_i h1 h2;simp only[Ah,Cp] at hk;obtain⟨⟨⟨q1,q2⟩,q3⟩,q4⟩:=hk;rcases q2 with q2|q2
         . obtain⟨el,hel⟩:=ax q2;exact XD H B S T ho hb (arr1 h1) (arr1 h2) q1 hel (.inl ⟨el,rfl⟩) q3 q4 e
         . exact XD H B S T ho hb (arr1 h1) (arr1 h2) q1 (O7 q2) (.inr rfl) q3 q4 e
       . cases hk
     . split at hk
       . rename_i h1 h2;simp only[Ah,Cp] at hk;obtain⟨⟨⟨q1,q2⟩,q3⟩,q4⟩:=hk;rcases q2 with q2|q2
         . obtain⟨el,hel⟩:=ax q2;exact XD H B S T ho hb (arr1 h1) (arr1 h2) q1 hel (.inl ⟨el,rfl⟩) q3 q4 ((aW (Wu e)).symm.trans e)
         . exact XD H B S T ho hb (arr1 h1) (arr1 h2) q1 (O7 q2) (.inr rfl) q3 q4 ((aW (Wu e)).symm.trans e)
       . cases hk
     . cases hk
   . cases hk
 . cases hk
end
def Opnd.slots:Opnd->List Nat
 |.t n=>[n]
 |.c _=>[]
def cL:Option Opnd->List Nat
 |none=>[]
 |some x=>x.slots
def SB:List (Nat×Nat×Opnd)->List Nat
 |[]=>[]
 |(_,_,x)::r=>x.slots++SB r
def XH:List Opnd->List Nat
 |[]=>[]
 |x::r=>x.slots++XH r
def AOp.uses:AOp->List Nat
 |.mv x|.nilck x|.boxB _ _ x|.boxH _ x|.mkSlice _ _ x|.loadB _ _ x|.loadH _ x|.loadX _ _ _ x|.un _ x|.conv _ x|.bstr x|.fieldA _ x|.field _ _ x|.len x|.lenT x|.extract x _=>x.slots
 |.pick c a b=>c.slots++a.slots++b.slots
 |.allocB _ _|.allocH _=>[]
 |.build _ ps|.litSlice _ _ _ ps=>SB ps
 |.storeB _ _ a x|.storeH _ a x|.bin _ a x|.eqB _ a x|.eqN _ a x|.eqA _ _ a x|.indexA _ a x|.index a x|.app _ a x|.appN _ a x|.minI a x|.maxI a x=>a.slots++x.slots
 |.slice _ x lo hi|.substr x lo hi=>x.slots++cL lo++cL hi
 |.callB _ _ args=>XH args
def Agree(ts:List Nat)(s s':List V):Prop:=∀ t∈ts,get s' t=get s t
theorem Agree.left{a b:List Nat}{s s':List V}(h:Agree (a++b) s s'):Agree a s s':=λ t ht=>h t (dh _ ht)
theorem Agree.right{a b:List Nat}{s s':List V}(h:Agree (a++b) s s'):Agree b s s':=λ t ht=>h t (cn _ ht)
theorem Bw{x:Opnd}{s s':List V}(h:Agree x.slots s s'):x.ev s'=x.ev s:=by
 cases x with
 |t n=>exact h n (by simp[Opnd.slots])
 |c v=>rfl
theorem Wg{x:Option Opnd}{s s':List V}(h:Agree (cL x) s s'):x.map (·.ev s')=x.map (·.ev s):=by
 cases x with
 |none=>rfl
 |some x=>simp only[Cv];rw[Bw h]
theorem VV{s s':List V}:∀ (ps:List (Nat×Nat×Opnd)) (cs:List V),Agree (SB ps) s s'->Fe s' cs ps=Fe s cs ps
 |[],_,_=>rfl
 | (off,size,x)::r,cs,h=>by
   have h1:x.ev s'=x.ev s:=Bw (Agree.left h)
   simp only[Fe,h1]
   split
   . exact VV r _ (Agree.right h)
   . rfl
theorem ZU{s s':List V}:∀ (xs:List Opnd),Agree (XH xs) s s'->xs.map (·.ev s')=xs.map (·.ev s)
 |[],_=>rfl
 |x::r,h=>by simp only[Cr];rw[Bw (Agree.left h),ZU r (Agree.right h)]
theorem ZI{o:AOp}{s s':List V}{bx:List (List V)}{hp:Ad}(h:Agree o.uses s s'):Af o ⟨s',bx,hp⟩=Af o ⟨s,bx,hp⟩:=by
 cases o with
 |mv x=>simp only[Af,Bw (x:=x) h]
 |nilck x=>simp only[Af,Bw (x:=x) h]
 |boxB i n x=>simp only[Af,Bw (x:=x) h]
 |boxH n x=>simp only[Af,Bw (x:=x) h]
 |mkSlice w z x=>simp only[Af,Bw (x:=x) h]
 |loadB i n x=>simp only[Af,Bw (x:=x) h]
 |loadH n x=>simp only[Af,Bw (x:=x) h]
 |loadX i c n x=>simp only[Af,Bw (x:=x) h]
 |un op x=>simp only[Af,Bw (x:=x) h]
 |conv k x=>simp only[Af,Bw (x:=x) h]
 |bstr x=>simp only[Af,Bw (x:=x) h]
 |fieldA n x=>simp only[Af,Bw (x:=x) h]
 |field n m x=>simp only[Af,Bw (x:=x) h]
 |len x=>simp only[Af,Bw (x:=x) h]
 |lenT x=>simp only[Af,Bw (x:=x) h]
 |extract x i=>simp only[Af,Bw (x:=x) h]
 |pick c a b=>simp only[Af,Bw (x:=c) (Agree.left (Agree.left h)),Bw (x:=a) (Agree.right (Agree.left h)),Bw (x:=b) (Agree.right h)]
 |allocB i zs=>rfl
 |allocH zs=>rfl
 |build zs ps=>simp only[Af,VV ps zs h]
 |litSlice w n zs ps=>simp only[Af,VV ps zs h]
 |storeB i n a x=>simp only[Af,Bw (x:=a) (Agree.left h),Bw (x:=x) (Agree.right h)]
 |storeH n a x=>simp only[Af,Bw (x:=a) (Agree.left h),Bw (x:=x) (Agree.right h)]
 |bin op a x=>simp only[Af,Bw (x:=a) (Agree.left h),Bw (x:=x) (Agree.right h)]
 |eqB neg a x=>simp only[Af,Bw (x:=a) (Agree.left h),Bw (x:=x) (Agree.right h)]
 |eqN neg a x=>simp only[Af,Bw (x:=a) (Agree.left h)]
 |eqA n neg a x=>simp only[Af,Bw (x:=a) (Agree.left h),Bw (x:=x) (Agree.right h)]
 |indexA w a x=>simp only[Af,Bw (x:=a) (Agree.left h),Bw (x:=x) (Agree.right h)]
 |index a x=>simp only[Af,Bw (x:=a) (Agree.left h),Bw (x:=x) (Agree.right h)]
 |app w a x=>simp only[Af,Bw (x:=a) (Agree.left h),Bw (x:=x) (Agree.right h)]
 |appN w a x=>simp only[Af,Bw (x:=a) (Agree.left h),Bw (x:=x) (Agree.right h)]
 |minI a x=>simp only[Af,Bw (x:=a) (Agree.left h),Bw (x:=x) (Agree.right h)]
 |maxI a x=>simp only[Af,Bw (x:=a) (Agree.left h),Bw (x:=x) (Agree.right h)]
 |slice w x lo hi=>simp only[Af,Bw (x:=x) (Agree.left (Agree.left h)),Wg (x:=lo) (Agree.right (Agree.left h)),Wg (x:=hi) (Agree.right h)]
 |substr x lo hi=>simp only[Af,Bw (x:=x) (Agree.left (Agree.left h)),Wg (x:=lo) (Agree.right (Agree.left h)),Wg (x:=hi) (Agree.right h)]
 |callB kp f args=>rfl
def AOp.isPure:AOp->Bool
 |.mv _|.nilck _|.pick ..|.build ..|.bin ..|.eqB ..|.eqN ..|.eqA ..|.un ..|.conv ..|.substr ..|.fieldA ..|.field ..|.indexA ..|.index ..|.len _|.lenT _|.minI ..|.maxI ..|.extract ..=>true
 |_=>false
def AOp.isReadH:AOp->Bool
 |.loadH ..|.loadX ..|.slice ..|.bstr _=>true
 |_=>false
def AOp.isLoadB:AOp->Bool
 |.loadB ..=>true
 |_=>false
def AOp.isPush:AOp->Bool
 |.mkSlice ..|.litSlice ..|.allocH _|.boxH ..|.storeB ..|.appN ..=>true
 |_=>false
def AOp.writesBox:AOp->Option Nat
 |.storeB i _ _ _=>some i
 |_=>none
def AOp.readsBox:AOp->Option Nat
 |.loadB i _ _=>some i
 |.loadX i _ _ _=>some i
 |_=>none
def AOp.clearsBox:AOp->Bool
 |.allocB ..|.boxB ..=>true
 |_=>false
def AOp.isSlice:AOp->Bool
 |.slice ..=>true
 |_=>false
def AOp.isApp:AOp->Bool
 |.app ..=>true
 |_=>false
def AOp.isCall:AOp->Bool
 |.callB ..=>true
 |_=>false
def AOp.isKeep:AOp->Bool
 |.callB .all _ _=>true
 |_=>false
def AOp.keptBy(p q:AOp):Bool:=match q with
 | .callB (.box i' c') _ _=>(match p with
   |.loadX i c _ _=>i == i'&&c == c'
   |_=>false)
 |_=>false
def AOp.isMv:AOp->Bool
 |.mv _=>true
 |_=>false
theorem M6{o:AOp}(ho:o.isPure=true){s:List V}{bx bx1:List (List V)}{hp hp1:Ad}{v:V}(e:Af o ⟨s,bx,hp⟩=some (v,bx1,hp1)) :
 bx1=bx/\hp1=hp/\∀ bx2 hp2,Af o ⟨s,bx2,hp2⟩=some (v,bx2,hp2):=by
 have key:∀ bx hp,Af o ⟨s,bx,hp⟩=((Af o ⟨s,[],[]⟩).map (·.1)).bind λ v=>some (v,bx,hp):=by
  intro bx hp
  cases o with
  |mv x=>rfl
  |nilck x=>simp only[Af];generalize x.ev s=u;cases u<;>rfl
  |pick c a b=>simp only[Af];generalize c.ev s=u;cases u<;>rfl
  | build zs ps=>
    simp only[Af];by_cases h:zs.all V.cell=true
    . simp only[h,AN];cases Fe s zs ps<;>rfl
    . simp only[h];rfl
  |bin op x y=>simp only[Af];cases IP op (x.ev s) (y.ev s)<;>rfl
  |eqB neg x y=>simp only[Af];generalize x.ev s=u;generalize y.ev s=t;cases u<;>cases t<;>rfl
  | eqN neg x y=>
    simp only[Af];generalize x.ev s=u
    cases u<;>first|rfl|skip
    cases y with
    |t n=>rfl
    |c c=>cases c<;>first|rfl|(rename_i b;cases b<;>rfl)
  | eqA n neg x y=>
    simp only[Af];generalize x.ev s=u;generalize y.ev s=t
    cases u<;>cases t<;>first|rfl|skip
    rename_i a b;by_cases h:a.length=n/\b.length=n
    . simp only[Ac h];cases Et a b<;>rfl
    . simp only[Ae h];rfl
  |un op x=>simp only[Af];cases Mt op (x.ev s)<;>rfl
  |conv k x=>simp only[Af];generalize x.ev s=u;cases u<;>rfl
  | substr x lo hi=>
    simp only[Af];generalize x.ev s=u
    cases u<;>first|rfl|skip
    rename_i t;dsimp only
    cases E4 0 (lo.map (·.ev s)) with
    |none=>rfl
    | some l=>
      simp only[JA]
      cases E4 t.length (hi.map (·.ev s)) with
      |none=>rfl
      | some h=>
        simp only[JA];by_cases hc:l<=h/\h<=t.length
        . simp only[Ac hc];rfl
        . simp only[Ae hc];rfl
  |fieldA off x=>simp only[Af];generalize x.ev s=u;cases u<;>rfl
  | field off n x=>
    simp only[Af];generalize x.ev s=u
    cases u<;>first|rfl|skip
    rename_i cs;by_cases hc:off+n.getD 1<=cs.length
    . simp only[Ac hc];cases Dp n ((cs.drop off).take (n.getD 1))<;>rfl
    . simp only[Ae hc];rfl
  | indexA w x i=>
    simp only[Af];generalize x.ev s=u;generalize i.ev s=t
    cases u<;>first|rfl|skip
    cases t<;>first|rfl|skip
    rename_i l q n k j;by_cases hc:0<=j/\j<(n:Int)
    . simp only[Ac hc];rfl
    . simp only[Ae hc];rfl
  | index x i=>
    simp only[Af];generalize x.ev s=u;generalize i.ev s=t
    cases u<;>first|rfl|skip
    cases t<;>first|rfl|skip
    rename_i t k j;by_cases hc:0<=j
    . simp only[Ac hc];cases t[j.toNat]?<;>rfl
    . simp only[Ae hc];rfl
  |len x=>simp only[Af];generalize x.ev s=u;cases u<;>rfl
  |lenT x=>simp only[Af];generalize x.ev s=u;cases u<;>rfl
  |minI x y=>simp only[Af];generalize x.ev s=u;generalize y.ev s=t;cases u<;>first|rfl|(rename_i k _;cases k<;>first|rfl|(cases t<;>first|rfl|(rename_i k _;cases k<;>rfl)))
  |maxI x y=>simp only[Af];generalize x.ev s=u;generalize y.ev s=t;cases u<;>first|rfl|(rename_i k _;cases k<;>first|rfl|(cases t<;>first|rfl|(rename_i k _;cases k<;>rfl)))
  | extract x i=>
    simp only[Af];generalize x.ev s=u
    cases u<;>first|rfl|skip
    rename_i vs;dsimp only;cases vs[i]?<;>rfl
  |_=>simp[AOp.isPure] at ho
 rw[key] at e
 simp only[B9] at e
 obtain⟨u,h1,h2⟩:=e
 cases h2
 exact⟨rfl,rfl,λ bx2 hp2=>by rw[key,h1];rfl⟩
theorem jo{h:Ad}{b:Blk}{l w:Nat}(e:EH h l=some w):EH (h++[b]) l=some w:=by
 unfold EH at e ⊢
 cases hl:h[l]? with
 |none=>simp[hl] at e
 | some c=>
   have hlt:l<h.length:=(List.getElem?_eq_some_iff.1 hl).1;rw[Bx hlt,hl];rw[hl] at e;exact e
def Kept(hp hp2:Ad):Prop:=∀ l,l<hp.length->hp2[l]?=hp[l]?
theorem Kept.push{hp hp2:Ad}(h:hp2=hp\/∃ b,hp2=hp++[b]):Kept hp hp2:=by
 rcases h with rfl|⟨b,rfl⟩
 . exact λ _ _=>rfl
 . exact λ l hl=>Bx hl
theorem Kept.rd{h h2:Ad}(k:Kept h h2){l o n:Nat}{cs:List V}(e:rd h l o n=some cs):Ag.rd h2 l o n=some cs:=by
 unfold Ag.rd at e ⊢
 cases hl:h[l]? with
 |none=>simp[hl] at e
 | some c=>
   rw[k l (List.getElem?_eq_some_iff.1 hl).1,hl];rw[hl] at e;exact e
theorem Kept.width{h h2:Ad}(k:Kept h h2){l w:Nat}(e:EH h l=some w):EH h2 l=some w:=by
 unfold EH at e ⊢
 cases hl:h[l]? with
 |none=>simp[hl] at e
 | some c=>
   rw[k l (List.getElem?_eq_some_iff.1 hl).1,hl];rw[hl] at e;exact e
theorem Pa{o:AOp}(ho:o.isReadH=true){s:List V}{bx bx1:List (List V)}{hp hp1:Ad}{v:V}(e:Af o ⟨s,bx,hp⟩=some (v,bx1,hp1)) :
 bx1=bx/\hp1=hp/\∀ bx2 hp2,Kept hp hp2->(∀ i,o.readsBox=some i->AW bx2 i=AW bx i)->Af o ⟨s,bx2,hp2⟩=some (v,bx2,hp2):=by
 cases o with
 | loadH n x=>
   simp only[Af] at e ⊢;generalize x.ev s=u at *;cases u<;>simp only[B9,reduceCtorEq] at e;obtain⟨cs,e1,u,e2,e3⟩:=e;cases e3;exact⟨rfl,rfl,λ bx2 hp2 h _=>by simp[h.rd e1,e2]⟩
 | loadX i c n x=>
   obtain⟨hh,e⟩:=WK e;simp only[Af] at e ⊢;simp only at hh;generalize x.ev s=u at *;cases u<;>simp only[B9,reduceCtorEq] at e;obtain⟨cs,e1,u,e2,e3⟩:=e;cases e3;exact⟨rfl,rfl,λ bx2 hp2 h hb=>by rw[hb i rfl];simp[hh,h.rd e1,e2]⟩
 | slice w x lo hi=>
   simp only[Af] at e ⊢;generalize x.ev s=u at *;cases u<;>simp only[B9,reduceCtorEq] at e
   . obtain⟨l,e1,h,e2,e3⟩:=e;split at e3
     . rename_i hc;cases e3;refine⟨rfl,rfl,λ bx2 hp2 _ _=>?_⟩;simp[e1,e2,hc]
     . cases e3
   . obtain⟨l,e1,h,e2,e3⟩:=e;split at e3
     . rename_i hc;obtain⟨c1,c2,c3⟩:=hc;cases e3;exact⟨rfl,rfl,λ bx2 hp2 hh _=>by simp[e1,e2,c1,c2,hh.width c3]⟩
     . cases e3
 | bstr x=>
   simp only[Af] at e ⊢;generalize x.ev s=u at *;cases u<;>simp only[B9,reduceCtorEq] at e
   . cases e;exact⟨rfl,rfl,λ _ _ _ _=>rfl⟩
   . obtain⟨cs,e1,u,e2,e3⟩:=e;cases e3;exact⟨rfl,rfl,λ bx2 hp2 h _=>by simp[h.rd e1,e2]⟩
 |_=>simp[AOp.isReadH] at ho
theorem MY{i:Nat}{n:Option Nat}{x:Opnd}{s:List V}{bx bx1:List (List V)}{hp hp1:Ad}{v:V}(e:Af (.loadB i n x) ⟨s,bx,hp⟩=some (v,bx1,hp1)) :
 bx1=bx/\hp1=hp/\∀ bx2 hp2,AW bx2 i=AW bx i->Af (.loadB i n x) ⟨s,bx2,hp2⟩=some (v,bx2,hp2):=by
 simp only[Af] at e ⊢
 generalize x.ev s=u at *
 cases u<;>simp only[reduceCtorEq] at e
 split at e
 . rename_i hc
   simp only[B9] at e;obtain⟨u,e1,e2⟩:=e;cases e2;refine⟨rfl,rfl,λ bx2 hp2 h=>?_⟩;simp only[h,Ac hc,e1];rfl
 . cases e
theorem RW{o:AOp}(ho:o.isPush=true){s:List V}{bx bx1:List (List V)}{hp hp1:Ad}{v:V}(e:Af o ⟨s,bx,hp⟩=some (v,bx1,hp1)) :
 (hp1=hp\/∃ b,hp1=hp++[b])/\∀ i,o.writesBox≠some i->AW bx1 i=AW bx i:=by
 cases o with
 | mkSlice w z x=>
   simp only[Af] at e;split at e
   . split at e
     . split at e
       . cases e;exact⟨.inl rfl,λ _ _=>rfl⟩
       . cases e;exact⟨.inr ⟨_,rfl⟩,λ _ _=>rfl⟩
     . cases e
   . cases e
 | litSlice w n zs ps=>
   simp only[Af] at e;split at e
   . cases e;exact⟨.inl rfl,λ _ _=>rfl⟩
   . split at e
     . simp only[B9] at e;obtain⟨cs,_,e⟩:=e;cases e;exact⟨.inr ⟨_,rfl⟩,λ _ _=>rfl⟩
     . cases e
 | allocH zs=>
   simp only[Af] at e;split at e
   . cases e;exact⟨.inr ⟨_,rfl⟩,λ _ _=>rfl⟩
   . cases e
 | boxH n x=>
   simp only[Af] at e;split at e
   . cases e;exact⟨.inr ⟨_,rfl⟩,λ _ _=>rfl⟩
   . cases e
 | storeB i n a x=>
   simp only[Af] at e;split at e
   . split at e
     . cases e;refine⟨.inl rfl,λ j hj=>?_⟩
       have hne:j≠i:=λ h=>hj (by rw[h];rfl)
       have:∀ (s:List (List V)) (n m:Nat) (v:List V),m≠n->AW (Dr s n v) m=AW s m:=by
        intro s
        induction s with
        |nil=>intros;rfl
        | cons x r ih=>
          intro n m v h
          cases n with
          | zero=>cases m with
            |zero=>exact absurd rfl h
            |succ m=>rfl
          | succ n=>cases m with
            |zero=>rfl
            |succ m=>exact ih n m v (by omega)
       exact this _ _ _ _ hne
     . cases e
   . cases e
 | appN w x y=>
   have hx:=Wu e;simp only[Af] at e;simp only at hx;rw[hx] at e;simp only at e;split at e
   . simp only[B9] at e;obtain⟨⟨v1,h1⟩,e1,e2⟩:=e;cases e2;unfold app at e1;split at e1
     . cases e1
     . simp only at e1;split at e1
       . cases e1;exact⟨.inl rfl,λ _ _=>rfl⟩
       . split at e1
         . cases e1;exact⟨.inr ⟨_,rfl⟩,λ _ _=>rfl⟩
         . cases e1
   . cases e
 |_=>simp[AOp.isPush] at ho
theorem yW{o:AOp}(ho:o.isSlice=true){s:List V}{bx bx1:List (List V)}{hp hp1:Ad}{v:V}(e:Af o ⟨s,bx,hp⟩=some (v,bx1,hp1)) :
 bx1=bx/\hp1=hp/\∀ bx2 hp2,(∀ l w,EH hp l=some w->EH hp2 l=some w)->Af o ⟨s,bx2,hp2⟩=some (v,bx2,hp2):=by
 cases o<;>simp[AOp.isSlice] at ho
 rename_i w x lo hi
 simp only[Af] at e ⊢
 generalize x.ev s=u at *
 cases u<;>simp only[B9,reduceCtorEq] at e
 . obtain⟨l,e1,h,e2,e3⟩:=e
   split at e3
   . rename_i hc;cases e3;refine⟨rfl,rfl,λ bx2 hp2 _=>?_⟩;simp[e1,e2,hc]
   . cases e3
 . obtain⟨l,e1,h,e2,e3⟩:=e
   split at e3
   . rename_i hc;obtain⟨c1,c2,c3⟩:=hc;cases e3;refine⟨rfl,rfl,λ bx2 hp2 hh=>?_⟩;simp[e1,e2,c1,c2,hh _ _ c3]
   . cases e3
theorem zq{o:AOp}(ho:o.isApp=true){s:List V}{bx bx1:List (List V)}{hp hp1:Ad}{v:V}(e:Af o ⟨s,bx,hp⟩=some (v,bx1,hp1)) :
 ∀ l w,EH hp l=some w->EH hp1 l=some w:=by
 cases o<;>simp[AOp.isApp] at ho
 rename_i w x y
 intro l w' hw
 simp only[Af] at e
 split at e
 . simp only [B9] at e
   obtain⟨⟨v1,h1⟩,e1,e2⟩:=e;cases e2;unfold app at e1;split at e1
   . cases e1
   . rename_i new k hsrc;split at e1
     . split at e1
       . cases e1;exact hw
       . split at e1
         . cases e1;exact jo hw
         . cases e1
     . rename_i l' o n _;split at e1
       . cases e1;exact hw
       . split at e1
         . rename_i b hb;split at e1
           . rename_i hc;cases e1;refine jo ?_;unfold EH at hw ⊢;rw[G7];by_cases hl:l'=l
             . subst hl;have hlt:l'<hp.length:=(List.getElem?_eq_some_iff.1 hb).1;rw[hb] at hw;simp only[Ak] at hw;simp[hlt,<- hw,hc.2.1]
             . rw[Ae hl];exact hw
           . cases e1
         . cases e1
     . cases e1
 . cases e
def oS(Φ:Phm)(v:V):Prop:=(∀ l o n,v= .slice l o n->Φ l=none)/\∀ l o,v= .ptr l o->Φ l=none
theorem je{Φ:Phm}{h:Ad}{l:Nat}{blk:Blk}(e:(kill Φ h)[l]?=some blk)(hw:0<blk.w):Φ l=none:=by
 rw[Gr] at e
 cases hl:h[l]? with
 |none=>rw[hl] at e;cases e
 | some b=>
   rw[hl] at e;simp only[Cv,Ak] at e
   cases hp:Φ l with
   |none=>rfl
   |some c=>rw[hp] at e;simp at e;subst e;simp[My] at hw
theorem b7{Φ:Phm}{h:Ad}{ι:AA}{β:Nat->Nat}{v:V}{x:Value}(r:Rel ι (kill Φ h) β v x):oS Φ v:=by
 refine⟨λ l o n e=>?_,λ l o e=>?_⟩
 . subst e;obtain⟨blk,hb,_⟩:=G1 r;exact je hb (LI r hb)
 . subst e;obtain⟨⟨blk,hb⟩,_⟩:=IB r;exact je hb (Wn r hb)
theorem PN{Φ:Phm}{h:Ad}{l o n:Nat}(e:Φ l=none):rd (kill Φ h) l o n=rd h l o n:=by unfold rd;rw[PG e]
theorem yt{Φ:Phm}{h:Ad}{l:Nat}(e:Φ l=none):EH (kill Φ h) l=EH h l:=by unfold EH;rw[PG e]
def AOp.heads:AOp->List Opnd
 |.loadH _ x|.loadX _ _ _ x|.bstr x|.slice _ x _ _|.storeH _ x _=>[x]
 |.app _ x y=>[x,y]
 |.appN _ x y=>[x,y]
 |_=>[]
theorem Zbw{P:Program}{op:Op}{o:AOp}(hk:Fh P op o=true):∀ y∈o.heads,∃ x,Ay x y=true:=by
 intro y hy;cases o<;>simp only[AOp.heads,Cz,List.not_mem_nil,or_false] at hy
 case loadH n x=>subst hy;cases op<;>simp only[Fh,Ah,AL] at hk;exact⟨_,hk.2⟩;(split at hk<;>simp[KI] at hk)
 case loadX i c n x=>subst hy;cases op<;>simp only[Fh,Ah,AL] at hk;exact⟨_,hk.2⟩;(split at hk<;>simp[KI] at hk)
 case bstr x=>subst hy;cases op<;>simp only[Fh,Ah,AL] at hk;exact⟨_,hk.2⟩;(split at hk<;>simp[KI] at hk)
 case slice w x lo hi=>
  subst hy;cases op<;>simp only[Fh,AL] at hk
  . rename_i t x1 l1 h1 m1;cases m1<;>simp only[Fh,Ah,AL] at hk;exact⟨_,hk.1.1.2⟩
  . (split at hk<;>simp[KI] at hk)
 case storeH n x z=>subst hy;cases op<;>simp only[Fh,Ah,AL] at hk;exact⟨_,hk.1.2⟩;(split at hk<;>simp[KI] at hk)
 case app w x z=>
  cases op<;>simp only[Fh,AL] at hk;split at hk
  . simp only[KI] at hk;split at hk
    . simp only[Ah] at hk;rcases hy with rfl|rfl
      . exact⟨_,hk.1.2⟩
      . exact⟨_,hk.2⟩
    . cases hk
  . cases hk
 case appN w x z=>
  cases op<;>simp only[Fh,AL] at hk;split at hk
  . simp only[KI] at hk;split at hk
    . simp only[Ah] at hk;rcases hy with rfl|rfl
      . exact⟨_,hk.1.2⟩
      . exact⟨_,hk.2⟩
    . cases hk
  . cases hk
theorem zl{o:AOp}{Φ:Phm}{sl:List V}{bx bx1:List (List V)}{h h1:Ad}{v:V}(hH:Has Φ h)(hu:∀ x∈o.heads,oS Φ (x.ev sl))(e:Af o ⟨sl,bx,h⟩=some (v,bx1,h1)) :
 Af o ⟨sl,bx,kill Φ h⟩=some (v,bx1,kill Φ h1)/\Has Φ h1:=by
 by_cases hp:o.isPure=true
 . obtain⟨rfl,rfl,e3⟩:=M6 hp e
   exact⟨e3 _ _,hH⟩
 cases o<;>first|exact absurd rfl hp|skip
 case allocB i zs=>
  simp only[Af] at e ⊢;split at e
  . rename_i hc;cases e;exact⟨by rw[Ac hc],hH⟩
  . cases e
 case boxB i n x=>
  simp only[Af] at e ⊢;split at e
  . rename_i hc;cases e;exact⟨by rw[Ac hc],hH⟩
  . cases e
 case allocH zs=>
  simp only[Af] at e ⊢;split at e
  . rename_i hc;cases e;exact⟨by rw[Ac hc,Ep,M9 hH],hH.push _⟩
  . cases e
 case boxH n x=>
  simp only[Af] at e ⊢;split at e
  . rename_i hc;cases e;exact⟨by rw[Ac hc,Ep,M9 hH],hH.push _⟩
  . cases e
 case mkSlice w z x=>
  simp only[Af] at e ⊢;generalize x.ev sl=u at *;split at e
  . split at e
    . rename_i hc;simp only[Ac hc];split at e
      . rename_i h0;cases e;exact⟨by rw[Ac h0],hH⟩
      . rename_i h0;cases e;exact⟨by rw[Ae h0,Ep,M9 hH],hH.push _⟩
    . cases e
  . cases e
 case litSlice w n zs ps=>
  simp only[Af] at e ⊢;split at e
  . rename_i h0;cases e;exact⟨by rw[Ac h0],hH⟩
  . rename_i h0;rw[Ae h0];split at e
    . rename_i hc;rw[Ac hc];simp only[B9] at e;obtain⟨cs,e1,e⟩:=e;cases e;exact⟨by rw[e1,Ep,M9 hH];rfl,hH.push _⟩
    . cases e
 case loadB i n x=>
  obtain⟨rfl,rfl,e3⟩:=MY e;exact⟨e3 _ _ rfl,hH⟩
 case storeB i n a x=>
  simp only[Af] at e ⊢;generalize a.ev sl=u at *;split at e
  . split at e
    . rename_i hc;cases e;exact⟨by rw[Ac hc],hH⟩
    . cases e
  . cases e
 case loadH n x=>
  have hn:=hu x (by simp[AOp.heads]);simp only[Af] at e ⊢;generalize x.ev sl=u at *;split at e
  . rename_i l o;simp only[B9] at e;obtain⟨cs,e1,u,e2,e⟩:=e;cases e;exact⟨by rw[PN (hn.2 l o rfl),e1];simp[e2],hH⟩
  . cases e
 case storeH n a x=>
  have hn:=hu a (by simp[AOp.heads]);simp only[Af] at e ⊢;generalize a.ev sl=u at *;split at e
  . rename_i l o;have hl:=hn.2 l o rfl;split at e
    . rename_i hc;simp only[Ac hc];simp only[B9] at e;obtain⟨h2,e1,e⟩:=e;cases e;unfold wr at e1 ⊢;rw[PG hl];split at e1
      . rename_i b hb;split at e1
        . rename_i hc2;cases e1;exact⟨by simp only[Ac hc2];rw[WM hl];rfl,hH.set hl _⟩
        . cases e1
      . cases e1
    . cases e
  . cases e
 case bstr x=>
  have hn:=hu x (by simp[AOp.heads]);simp only[Af] at e ⊢;generalize x.ev sl=u at *;split at e
  . cases e;exact⟨rfl,hH⟩
  . rename_i l o n;simp only[B9] at e;obtain⟨cs,e1,u,e2,e⟩:=e;cases e;exact⟨by rw[PN (hn.1 l o n rfl),e1];simp[e2],hH⟩
  . cases e
 case slice w x lo hi=>
  have hn:=hu x (by simp[AOp.heads]);simp only[Af] at e ⊢;generalize x.ev sl=u at *;split at e
  . simp only[B9] at e;obtain⟨l1,e1,h2,e2,e⟩:=e;split at e
    . rename_i hc;cases e;exact⟨by simp[e1,e2,hc],hH⟩
    . cases e
  . rename_i l o n;simp only[B9] at e;obtain⟨l1,e1,h2,e2,e⟩:=e;split at e
    . rename_i hc;cases e;exact⟨by simp[e1,e2,yt (hn.1 l o n rfl),hc],hH⟩
    . cases e
  . cases e
 case app w x y=>
  have hnx:=hu x (by simp[AOp.heads]);have hny:=hu y (by simp[AOp.heads]);simp only[Af] at e ⊢;generalize x.ev sl=u at *;generalize y.ev sl=t at *;split at e
  . rename_i hw;rw[Ac hw];simp only[B9] at e;obtain⟨⟨v2,h2⟩,e1,e⟩:=e;cases e
    have hs:Ed (kill Φ h) w t=Ed h w t:=by
     cases t<;>try rfl
     rename_i l o n;simp only[Ed,PN (hny.1 l o n rfl)]
    have:app (kill Φ h) w u t=some (v2,kill Φ h2)/\Has Φ h2:=by
     unfold app at e1 ⊢;rw[hs];split at e1
     . cases e1
     . rename_i new k hsrc
       try simp only[hsrc]
       split at e1
       . split at e1
         . rename_i hk;cases e1;exact⟨by simp[hk],hH⟩
         . rename_i hk;split at e1
           . rename_i hr;cases e1;exact⟨by rw[Ae hk,Ac hr,Ep,M9 hH],hH.push _⟩
           . cases e1
       . rename_i l o n;have hl:=hnx.1 l o n rfl;split at e1
         . rename_i hk;cases e1;exact⟨by simp[hk],hH⟩
         . rename_i hk;split at e1
           . rename_i b hb;split at e1
             . rename_i hc;cases e1;refine⟨?_,(hH.set hl _).push _⟩;simp only[Ae hk,PG hl,hb,Ac hc];rw[M9 (hH.set hl _),WM hl,Ep]
             . cases e1
           . cases e1
       . cases e1
    exact⟨by rw[this.1];rfl,this.2⟩
  . cases e
 case appN w x y=>
  have hx:=Wu e;simp only at hx;have hny:=hu y (by simp[AOp.heads]);simp only[Af,hx] at e ⊢;generalize y.ev sl=t at *;split at e
  . rename_i hw;rw[Ac hw];simp only[B9] at e;obtain⟨⟨v2,h2⟩,e1,e⟩:=e;cases e
    have hs:Ed (kill Φ h) w t=Ed h w t:=by
     cases t<;>try rfl
     rename_i l o n;simp only[Ed,PN (hny.1 l o n rfl)]
    have:app (kill Φ h) w .nils t=some (v2,kill Φ h2)/\Has Φ h2:=by
     unfold app at e1 ⊢;rw[hs];split at e1
     . cases e1
     . rename_i new k hsrc
       try simp only[hsrc]
       simp only at e1;split at e1
       . rename_i hk;cases e1;exact⟨by simp[hk],hH⟩
       . rename_i hk;split at e1
         . rename_i hr;cases e1;exact⟨by rw[Ae hk,Ac hr,Ep,M9 hH],hH.push _⟩
         . cases e1
    exact⟨by rw[this.1];rfl,this.2⟩
  . cases e
 case loadX i c n x=>
  have hn:=hu x (by simp[AOp.heads]);obtain⟨hh,e⟩:=WK e;rw[kT (st:=⟨sl,bx,kill Φ h⟩) hh];simp only[Af] at e ⊢;generalize x.ev sl=u at *;split at e
  . rename_i l o;simp only[B9] at e;obtain⟨cs,e1,u,e2,e⟩:=e;cases e;exact⟨by rw[PN (hn.2 l o rfl),e1];simp[e2],hH⟩
  . cases e
 case callB=>simp[Af] at e
def bG(ops:Array Oper):Option (Nat×Bool)->Option (Nat×Bool)->Bool
 |none,none=>true
 |some (j,want),some (g,want')=>want == want'&&(ops[j]?).bind (·.dst) == some g
 |_,_=>false
def lY(P:Program)(g:FuncId):Bool:=match P.funcs[g]? with|some fn=>fn.body.isSome&&fn.name != "runtime.NumGoroutine"|none=>false
def KJ(P:Program)(op:Op)(args:List Opnd):Option FuncId:=
 match op with
 | .call c=>(match c.callee with
   |.value (.func g)=>if NL c.args.toList args&&lY P g then some g else none
   |_=>none)
 |_=>none
def Ma(P:Program)(ops:Array Oper)(ao:AOper):Bool:=
 match ops[ao.id]? with
 |some o=>o.dst == ao.dst&&bG ops o.guard ao.guard&&(match ao.op with|.callB _ _ args=>(KJ P o.op args).isSome|p=>Fh P o.op p)
 |none=>false
def KY(P:Program)(ops:Array Oper)(ao:AOper):List (FuncId×Be):=
 match ao.op,ops[ao.id]? with
 |.callB _ f args,some o=>(match KJ P o.op args with|some g=>[(g,f)]|none=>[])
 |_,_=>[]
theorem PI {ι0 ι:AA} {σ0 hp:Ad} {Φ:Phm} {w0 w:World} {a:Act} {sl:List V} {bx:List (List V)} {β:Nat->Nat} {v:V} {x:Value} {d:Option Nat} (hd:a.defers=[]) (hH:Has Φ hp) (H:HRel ι (kill Φ hp) w) (B:BRel ι (kill Φ hp) β bx w0 w)
 (S:SRel ι (kill Φ hp) β sl a.tmps) (hv:Rel ι (kill Φ hp) β v x) (T:Step ι0 σ0 w0 ι (kill Φ hp) w):C4 ι0 σ0 w0 Φ (St.put ⟨sl,bx,hp⟩ d v) (a.put d x) w:=by
 cases d with
 |none=>exact⟨hd,hH,ι,β,H,B,S,T⟩
 | some d=>
   refine⟨hd,hH,ι,β,H,B,⟨by simpa [Act.put,St.put] using S.1,λ i=>?_⟩,T⟩;simp only[Act.put,St.put];by_cases hi:i=d
   . subst hi;by_cases hl:i<sl.length
     . rw[xa _ _ _ hl];have:i<a.tmps.size:=KW hl S.1
       have e:(a.tmps.setIfInBounds i x).getD i Go.undef=x:=by simp[Array.getD,this]
       rw[e];exact hv
     . rw[ZcQ _ _ (by simp;omega)];exact .undef _
   . rw[gI _ _ _ _ hi]
     have e:(a.tmps.setIfInBounds d x).getD i Go.undef=a.tmps.getD i Go.undef:=by
      simp only[Mc,SM,Ae (Hv hi)]
     rw[e];exact S.2 i
theorem ju{ι ι':AA}{σ σ':Ad}{w0 w w':World}{β:Nat->Nat}{bx:List (List V)}(B:BRel ι σ β bx w0 w)(T:Step ι σ w ι' σ' w'):BRel ι' σ' β bx w0 w':=by
 refine B.mono T.keeps (λ i cs hi hne=>T.frame _ (B.new i cs hi hne).2 λ l blk hl hk=>B.heap i cs l blk hi hne hl (by rw[hk];decide)) T.size λ i cs l blk' hi hne hl hk=>?_
 by_cases hlt:l<σ.length
 . obtain⟨blk,hb⟩:=Pn hlt;rw[T.keeps.place l blk hb];rcases T.kinds l blk blk' hb hl with e|⟨_,e⟩
   . exact B.heap i cs l blk hi hne hb (e▸hk)
   . exact absurd e hk
 . rcases (T.fresh l blk' (by omega) hl hk).2 with e|⟨l0,blk0,h0,k0,p0⟩
   . have:=(B.new i cs hi hne).2;omega
   . rw[<- p0];exact B.heap i cs l0 blk0 hi hne h0 (by rw[k0];decide)
theorem Zbp{xs:List Operand}{ys:List Opnd}(h:NL xs ys=true){ι:AA}{σ:Ad}{β:Nat->Nat}{sl:List V}{a:Act}(S:SRel ι σ β sl a.tmps)(hk:(ys.map (·.ev sl)).all V.ok1=true):mf ι σ (ys.map (·.ev sl)) (xs.map a.eval):=by
 induction xs generalizing ys with
 | nil=>cases ys with
   |nil=>exact⟨rfl,by simp⟩
   |cons=>simp[NL] at h
 | cons x r ih=>cases ys with
   |nil=>simp[NL] at h
   | cons y s=>
     simp only[NL,Ah] at h;simp only[Cr,GB,Ah] at hk;obtain⟨h1,h2⟩:=ih h.2 hk.2;refine⟨by simp at h1 ⊢;exact h1,λ i v xv hv hx β'=>?_⟩
     cases i with
     | zero=>
       simp at hv hx;subst hv;subst hx
       refine(BB h.1 S).mono (.refl _ _) λ j q e=>?_
       rw[e] at hk;simp[V.ok1,V.cell] at hk
     |succ i=>exact h2 i v xv (by simpa using hv) (by simpa using hx) β'
section
variable {P:Program} {ops:Array Oper} {ι0:AA} {σ0:Ad} {Φ:Phm} {w0:World} {st:St} {a:Act} {w:World} {Q:Exit->Act->World->Prop}
theorem Zau{o:Oper}{args:List Opnd}{g:FuncId}(h:KJ P o.op args=some g):∃ xs:List Operand,NL xs args=true/\(execOp a.eval o).run P w= .ok (.enter g (xs.map a.eval).toArray) w:=by
 unfold KJ at h;split at h
 . rename_i c ho;split at h
   . rename_i g' hc;split at h
     . rename_i hcond;cases h;simp only[Ah] at hcond;obtain⟨h1,h2⟩:=hcond;unfold lY at h2;split at h2
       . rename_i fn hfn;simp only[Ah,Sb,HB] at h2;refine⟨c.args.toList,h1,?_⟩
         have hb:fn.body≠none:=by
          have:=h2.1;intro hq;rw[hq] at this;simp at this
         have he:a.eval (.func g)= .func (.func g) #[] #[]:=rfl
         have hn:¬ fn.name= "runtime.NumGoroutine":=h2.2
         simp[execOp,ho,resolve,hc,he,Deferred.ofValue,invoke,callFunc,hfn,hb,hn];apply Array.ext';simp
       . cases h2
     . cases h
   . cases h
 . cases h
theorem xD{bx:List (List V)}{kp:KP}{f:Be}{g:FuncId}(hs:Az P g f):Az P g (SJ bx kp f):=by
 cases kp with
 |no=>exact hs
 | all=>
   rintro Φ ι σ w args xs Q h1 h2 h3 ⟨Q0,h4,h5⟩ h6;refine(hs Φ ι σ w args xs Q0 h1 h2 h3 h4 h6).mono ?_;rintro e w' ⟨x,r,σ',ι',rfl,hq,rest⟩;exact⟨x,r,σ',ι',rfl,(h5 r σ' hq).2,rest⟩
 | box i c=>
   rintro Φ ι σ w args xs Q h1 h2 h3 ⟨Q0,h4,h5⟩ h6;refine(hs Φ ι σ w args xs Q0 h1 h2 h3 h4 h6).mono ?_;rintro e w' ⟨x,r,σ',ι',rfl,hq,rest⟩;exact⟨x,r,σ',ι',rfl,(h5 r σ' hq).2,rest⟩
variable [hG:GlC P ι0 σ0 w0]
theorem uY {o:Oper} {kp:KP} {f:Be} {args:List Opnd} {g:FuncId} {d:Option Nat} {k:St->Prop} {K:Act->World->Prop} (hd:o.dst=d) (hg:KJ P o.op args=some g) (hs:Az P g f) (hrep:C4 ι0 σ0 w0 Φ st a w)
 (h:Bg (.callB kp f args) d k st) (hK:∀ st' a' w',C4 ι0 σ0 w0 Φ st' a' w'->k st'->K a' w'):o.wp P a w K Q:=by
 obtain⟨hdf,hH,ι,β,H,B,S,T⟩:=hrep
 obtain⟨hargs,hsem⟩:=h
 obtain⟨xs,hxs,hrun⟩:=Zau (a:=a) (w:=w) hg
 unfold Oper.wp
 rw[hrun,Oper.upon_enter]
 refine(xD hs Φ ι st.hp w _ _ _ hH H (Zbp hxs S hargs) hsem (hG.gl.step T)).mono ?_
 rintro e w' ⟨x,r,σ',ι',rfl,hq,hH',hr,H',T'⟩
 refine hK _ _ _ ?_ hq
 subst hd
 exact PI hdf hH' H' (ju B T') (S.mono T'.keeps) (hr β) (T.trans T')
theorem jO {o:Oper} {ao:AOp} {d:Option Nat} {k:St->Prop} {K:Act->World->Prop} (hd:o.dst=d) (hk:match ao with|.callB _ _ args=>(KJ P o.op args).isSome=true|p=>Fh P o.op p=true)
 (hc:∀ kp f args g,ao= .callB kp f args->KJ P o.op args=some g->Az P g f) (hrep:C4 ι0 σ0 w0 Φ st a w) (h:Bg ao d k st) (hK:∀ st' a' w',C4 ι0 σ0 w0 Φ st' a' w'->k st'->K a' w'):o.wp P a w K Q:=by
 by_cases hcall:∃ kp f args,ao= .callB kp f args
 . obtain⟨kp,f,args,rfl⟩:=hcall
   obtain⟨g,hg⟩:=Option.isSome_iff_exists.1 hk;exact uY hd hg (hc kp f args g rfl hg) hrep h hK
 . have hk':Fh P o.op ao=true:=by
    cases ao<;>first|exact hk|exact absurd ⟨_,_,_,rfl⟩ hcall
   have h':match Af ao st with|some (v,bx,hp)=>k (St.put { sl:=ao.clears st.sl,bx,hp } d v)|none=>False:=by
    cases ao<;>first|exact h|exact absurd ⟨_,_,_,rfl⟩ hcall
   split at h'
   . rename_i v bx hp he;obtain⟨hdf,hH,ι,β,H,B,S,T⟩:=hrep;obtain⟨he,hH'⟩:=zl (sl:=st.sl) (bx:=st.bx) hH (λ y hy=>by obtain⟨x,hx⟩:=Zbw hk' y hy;exact b7 (BB hx S)) he;obtain⟨nx,x,w',ι',β',hrun,hnx,H',B',S',hv,T'⟩:=ky (st:=⟨st.sl,st.bx,kill Φ st.hp⟩) H B S T hk' he;subst hd;unfold Oper.wp;rw[hrun];rcases hnx with rfl|⟨rfl,rfl⟩
     . exact hK _ _ _ (PI hdf hH' H' B' S' hv T') h'
     . exact hK _ _ _ (PI hdf hH' H' B' S' hv T') h'
   . exact h'.elim
theorem iJ {ao:AOper} {k:St->Prop} {K:Act->World->Prop} (hk:Ma P ops ao=true) (hc:∀ p∈KY P ops ao,Az P p.1 p.2) (hrep:C4 ι0 σ0 w0 Φ st a w) (h:CC ao k st)
 (hK:∀ st' a' w',C4 ι0 σ0 w0 Φ st' a' w'->k st'->K a' w'):wpOp P ops Q ao.id K a w:=by
 unfold Ma at hk
 split at hk
 . rename_i o ho
   simp only[Ah,A0] at hk;obtain⟨⟨h1,h2⟩,h3⟩:=hk
   have hmatch:match ao.op with|.callB _ _ args=>(KJ P o.op args).isSome=true|p=>Fh P o.op p=true:=by
    revert h3;cases ao.op<;>exact λ h=>h
   have hcall:∀ kp f args g,ao.op= .callB kp f args->KJ P o.op args=some g->Az P g f:=by
    intro kp f args g e1 e2;exact hc (g,f) (by simp[KY,e1,ho,e2])
   unfold wpOp;simp only[ho];unfold CC at h;unfold bG at h2;split at h2
   . rename_i g1 g2
     have hw:Region.wanted o (yielded ops a.tmps)=true:=by unfold Region.wanted;rw[g1]
     rw[g2] at h;rw[Ac hw];exact .inl (jO h1 hmatch hcall hrep h hK)
   . rename_i j want g want' g1 g2;simp only[Ah,A0] at h2;obtain⟨rfl,hj⟩:=h2;rw[g2] at h;have hrel:Rel _ _ _ (get st.sl g) (a.tmps.getD g Go.undef):=hrep.2.2.choose_spec.choose_spec.2.2.1.2 g
     have hy:yielded ops a.tmps j=match a.tmps[g]? with|some (.bool b)=>some b|_=>none:=by
      unfold yielded;rw[hj];rfl
     simp only at h;split at h
     . rename_i b hb;rw[hb] at hrel;have e:=Pp hrel
       have e2:a.tmps[g]?=some (.bool b):=by
        cases hq:a.tmps[g]? with
        |none=>simp[Mc,hq,Go.undef] at e
        |some u=>simp[Mc,hq] at e;rw[e]
       have hw:Region.wanted o (yielded ops a.tmps)=(b == want):=by
        unfold Region.wanted;rw[g1];simp only[hy,e2];cases b<;>cases want<;>rfl
       split at h
       . rename_i hbw;rw[Ac (by rw[hw,hbw];simp)];exact .inl (jO h1 hmatch hcall hrep h hK)
       . rename_i hbw;rw[Ae (by rw[hw];simpa using hbw)];obtain⟨hdf,hH,ι,β,H,B,S,T⟩:=hrep;rw[h1];exact hK _ _ _ (PI hdf hH H B S (.tup [] [] rfl (by simp) (by simp)) T) h
     . rename_i hb;rw[hb] at hrel;obtain⟨ws,e,hl,_,_⟩:=mx hrel;have hws:ws=[]:=List.length_eq_zero_iff.1 hl.symm;subst hws
       have hw:Region.wanted o (yielded ops a.tmps)=false:=by
        unfold Region.wanted;rw[g1];simp only[hy]
        cases hq:a.tmps[g]? with
        |none=>rfl
        |some u=>simp[Mc,hq] at e;rw[e];rfl
       rw[Ae (by rw[hw];simp)];obtain⟨hdf,hH,ι,β,H,B,S,T⟩:=hrep;rw[h1];exact hK _ _ _ (PI hdf hH H B S (.tup [] [] rfl (by simp) (by simp)) T) h
     . exact h.elim
   . cases h2
 . cases hk
end
def AOper.looks(o:AOper):List Nat:=o.op.uses++(match o.guard with|some (g,_)=>[g]|none=>[])
def HK(d:Option Nat)(l:List Nat):Bool:=match d with|some d=>!l.contains d|none=>true
def RG:Option Nat->Option Nat->Bool
 |some a,some b=>a != b
 |_,_=>true
def PC:Option Nat->Option Nat->Bool
 |some a,some b=>a != b
 |_,_=>true
def K3(p q:AOp):Bool:=
 !p.clearsBox&&!q.clearsBox&&!p.isCall &&
 (p.isPure||(p.isReadH&&q.isKeep)||p.keptBy q||(p.isLoadB&&PC p.readsBox q.writesBox)||(p.isReadH&&(q.isPure||q.isLoadB||q.isReadH||q.isPush)&&PC p.readsBox q.writesBox)||q.isPure||(q.isLoadB&&p.isPush&&PC q.readsBox p.writesBox)||(p.isSlice&&q.isApp))
theorem xR{p q:AOp}(h1:p.clearsBox=false)(h2:p.isCall=false)(h3:q.isPure=true)(h4:q.clearsBox=false):K3 p q=true:=by simp[K3,h1,h2,h3,h4]
theorem yo{p q:AOp}(h1:p.clearsBox=false)(h2:p.isCall=false)(h3:p.isPure=true)(h4:q.clearsBox=false):K3 p q=true:=by simp[K3,h1,h2,h3,h4]
def FC(p q:AOper):Bool:=HK p.dst q.looks&&HK q.dst p.looks&&RG p.dst q.dst&&(K3 p.op q.op||(p.op.isKeep&&q.op.isMv&&q.guard.isNone))
theorem Za7(s:List V)(a b:Nat)(v u:V)(h:a≠b):put (put s a v) b u=put (put s b u) a v:=by
 induction s generalizing a b with
 |nil=>rfl
 | cons x r ih=>
   cases a with
   | zero=>cases b with
     |zero=>exact absurd rfl h
     |succ b=>rfl
   | succ a=>cases b with
     |zero=>rfl
     |succ b=>simp only[put];rw[ih a b (by omega)]
def Fj(s:List V)(d:Option Nat)(v:V):List V:=match d with|some d=>put s d v|none=>s
theorem L3(sl:List V)(bx:List (List V))(hp:Ad)(d:Option Nat)(v:V):St.put ⟨sl,bx,hp⟩ d v=⟨Fj sl d v,bx,hp⟩:=by cases d<;>rfl
theorem aa(s:List V)(a b:Option Nat)(v u:V)(h:RG a b=true):Fj (Fj s a v) b u=Fj (Fj s b u) a v:=by
 cases a with
 |none=>rfl
 | some a=>cases b with
   |none=>rfl
   |some b=>exact Za7 s a b v u (by simpa [RG] using h)
theorem KG{l:List Nat}{s:List V}{d:Option Nat}{v:V}(h:HK d l=true):Agree l s (Fj s d v):=by
 cases d with
 |none=>exact λ _ _=>rfl
 | some d=>
   intro t ht;simp only[HK,BC,cR,Bo] at h;exact gI s d t v (λ e=>h (e▸ht))
theorem Agree.symm{l:List Nat}{s s':List V}(h:Agree l s s'):Agree l s' s:=λ t ht=>(h t ht).symm
theorem V7{d:Option Nat}{a b:List Nat}(h:HK d (a++b)=true):HK d a=true:=by
 cases d with
 |none=>rfl
 |some d=>simp[HK] at h ⊢;exact h.1
theorem WG(kp:KP)(f:Be)(args:List Opnd)(d:Option Nat)(k:St->Prop)(st:St) :
 Bg (.callB kp f args) d k st=((args.map (·.ev st.sl)).all V.ok1=true/\SJ st.bx kp f (args.map (·.ev st.sl)) st.hp λ r h=>k (St.put { st with hp:=h } d r)):=rfl
theorem Ix{o:AOp}(hc:o.isCall=false)(hb:o.clearsBox=false)(d:Option Nat)(k:St->Prop)(sl:List V)(bx:List (List V))(hp:Ad) :
 Bg o d k ⟨sl,bx,hp⟩=match Af o ⟨sl,bx,hp⟩ with|some (v,bx,hp)=>k ⟨Fj sl d v,bx,hp⟩|none=>False:=by
 have e:∀ v bx hp,St.put { sl:=o.clears sl,bx,hp } d v=⟨Fj sl d v,bx,hp⟩:=by
  intro v bx hp
  have:o.clears sl=sl:=by cases o<;>first|rfl|simp[AOp.clearsBox] at hb
  rw[this,L3]
 cases o<;>first|(simp[AOp.isCall] at hc;done)|(simp only[Bg];split<;>simp_all)
theorem lv {p q:AOp} {dp dq:Option Nat} {k:St->Prop} {st:St} (hp1:HK dp q.uses=true) (hq1:HK dq p.uses=true) (hd:RG dp dq=true) (hm:K3 p q=true)
 (h:Bg p dp (Bg q dq k) st):Bg q dq (Bg p dp k) st:=by
 obtain⟨sl,bx,hp⟩:=st
 unfold K3 at hm
 simp only[Ah,BC] at hm
 obtain⟨⟨⟨m1,m2⟩,m3⟩,m4⟩:=hm
 rw[Ix m3 m1] at h
 split at h
 . rename_i v bx1 hpp1 he
   have again:∀ u bx2 hp2,Af p ⟨sl,bx2,hp2⟩=some (v,bx2,hp2)->Bg p dp k ⟨Fj sl dq u,bx2,hp2⟩=k ⟨Fj (Fj sl dp v) dq u,bx2,hp2⟩:=by
    intro u bx2 hp2 h2;rw[Ix m3 m1,ZI (KG hq1),h2,aa _ _ _ _ _ hd]
   by_cases hcall:q.isCall=true
   ·
    cases q<;>simp[AOp.isCall] at hcall;rename_i kp f args;have ea:args.map (·.ev (Fj sl dp v))=args.map (·.ev sl):=ZU args (KG hp1);by_cases hrd:p.isReadH=true/\kp= .all
    ·
     obtain⟨hrd,rfl⟩:=hrd;obtain⟨rfl,rfl,h3⟩:=Pa hrd he;rw[WG] at h ⊢;rw[ea] at h;obtain⟨h1,Q0,h2,h4⟩:=h;refine⟨h1,Q0,h2,λ r h' hq=>?_⟩;obtain⟨k1,k2⟩:=h4 r h' hq;refine⟨k1,?_⟩;simp only[L3] at k1 k2 ⊢;rw[again r _ _ (h3 _ h' k1 (λ _ _=>rfl))];exact k2
    by_cases hkb:p.keptBy (.callB kp f args)=true
    ·
     cases kp<;>simp[AOp.keptBy] at hkb;cases p<;>simp at hkb;rename_i i c n x;obtain⟨rfl,rfl⟩:=hkb;obtain⟨rfl,rfl,_⟩:=Pa rfl he;rw[WG] at h ⊢;rw[ea] at h;obtain⟨h1,Q0,h2,h4⟩:=h;refine⟨h1,Q0,h2,λ r h' hq=>?_⟩;obtain⟨k1,k2⟩:=h4 r h' hq;refine⟨k1,?_⟩;simp only[L3] at k1 k2 ⊢;rw[again r _ _ ?_]
     . exact k2
     obtain⟨hh,he⟩:=WK he;have hh':Td (get (AW bx1 i) c) (x.ev sl)=true:=hh;rw[kT hh'];simp only[Af] at he ⊢;generalize x.ev sl=u at *;cases u<;>simp only[B9,reduceCtorEq] at he;rename_i l o;obtain⟨cs,e1,u,e2,e3⟩:=he;cases e3;generalize get (AW bx1 i) c=z at *;cases z<;>simp[Td] at hh'
     have e1':rd h' l o (n.getD 1)=some cs:=by
      unfold rd at e1 ⊢
      cases hl:hpp1[l]? with
      |none=>rw[hl] at e1;cases e1
      | some b=>
        rw[k1 l _ _ (by rw[hh']) (List.getElem?_eq_some_iff.1 hl).1,hl];rw[hl] at e1;exact e1
     simp[e1',e2]
    have hr:bx1=bx/\hpp1=hp/\∀ h',Af p ⟨sl,bx,h'⟩=some (v,bx,h'):=by
     simp only[AOp.isPure,AOp.isPush,AOp.isApp,AOp.isLoadB.eq_def (.callB kp f args),AOp.isReadH.eq_def (.callB kp f args),Bool.or_false,XR,Bool.and_false,Cp,Ah] at m4;rcases m4 with((m4|⟨m4,m5⟩)|m4)|⟨m4,_⟩
     . obtain⟨e1,e2,e3⟩:=M6 m4 he;exact⟨e1,e2,λ h'=>e3 _ _⟩
     . exact absurd ⟨m4,by cases kp<;>simp[AOp.isKeep] at m5 ⊢⟩ hrd
     . exact absurd m4 hkb
     . cases p<;>simp[AOp.isLoadB] at m4;obtain⟨e1,e2,e3⟩:=MY he;exact⟨e1,e2,λ h'=>e3 _ _ rfl⟩
    obtain⟨rfl,rfl,h3⟩:=hr;rw[WG] at h ⊢;rw[ea] at h;refine⟨h.1,?_⟩
    have e:(λ r h'=>Bg p dp k (St.put ⟨sl,bx1,h'⟩ dq r))=(λ r h'=>k (St.put ⟨Fj sl dp v,bx1,h'⟩ dq r)):=by
     funext r h';rw[L3,L3,again r _ _ (h3 h')]
    rw[e];exact h.2
   . have hcall':q.isCall=false:=by simpa using hcall
     rw[Ix hcall' m2] at h;split at h
     . rename_i u bx2 hpp2 hu;rw[ZI (KG hp1)] at hu;rw[Ix hcall' m2]
       have fin:∀ {bx' hp'},Af q ⟨sl,bx,hp⟩=some (u,bx',hp')->Af p ⟨sl,bx',hp'⟩=some (v,bx2,hpp2)->(match Af q ⟨sl,bx,hp⟩ with|some (v,bx,hp)=>Bg p dp k ⟨Fj sl dq v,bx,hp⟩|none=>False):=by
        intro bx' hp' e1 e2;rw[e1];simp only;rw[Ix m3 m1,ZI (KG hq1),e2];simp only;rw[<- aa _ _ _ _ _ hd];exact h
       simp only[Cp,Ah] at m4;rcases m4 with((((((m4|⟨m4,m5⟩)|m4)|⟨m4,m5⟩)|⟨⟨m4,m5⟩,m7⟩)|m4)|⟨⟨m4,m5⟩,m6⟩)|⟨m4,m5⟩
       . obtain⟨rfl,rfl,e3⟩:=M6 m4 he;exact fin hu (e3 _ _)
       . cases q<;>simp[AOp.isCall,AOp.isKeep] at hcall' m5
       . cases q<;>cases p<;>simp[AOp.isCall,AOp.keptBy] at hcall' m4
       . cases p<;>simp[AOp.isLoadB] at m4;rename_i i n x;obtain⟨rfl,rfl,e3⟩:=MY he;refine fin hu (e3 _ _ ?_)
         cases q<;>first
          |(have:=(M6 rfl hu).1;rw[this];done)
          |(have:=(Pa rfl hu).1;rw[this];done)
          |(have:=(MY hu).1;rw[this];done)
          |(refine(RW rfl hu).2 i ?_;simp[AOp.writesBox];done)
          |(refine(RW rfl hu).2 i ?_;intro e;simp only[AOp.writesBox,Ak] at e;subst e;simp[AOp.readsBox,AOp.writesBox,PC] at m5;done)
          |(simp[AOp.clearsBox] at m2;done)
          |(simp[AOp.isCall] at hcall';done)
          |skip
         ·
          simp only[Af] at hu;split at hu
          . split at hu
            . simp only[B9] at hu;obtain⟨_,_,hu⟩:=hu;cases hu;rfl
            . cases hu
          . cases hu
         ·
          simp only[Af] at hu;split at hu
          . simp only[B9] at hu;obtain⟨⟨_,_⟩,_,hu⟩:=hu;cases hu;rfl
          . cases hu
       . obtain⟨rfl,rfl,e3⟩:=Pa m4 he;refine fin hu (e3 _ _ ?_ λ i hi=>?_)
         case refine_2=>
          rcases m5 with((m5|m5)|m5)|m5
          . rw[(M6 m5 hu).1]
          . cases q<;>simp[AOp.isLoadB] at m5;rw[(MY hu).1]
          . rw[(Pa m5 hu).1]
          . refine(RW m5 hu).2 i λ e=>?_
            rw[hi,e] at m7;simp[PC] at m7
         refine Kept.push ?_;rcases m5 with((m5|m5)|m5)|m5
         . exact .inl (M6 m5 hu).2.1
         . cases q<;>simp[AOp.isLoadB] at m5;exact .inl (MY hu).2.1
         . exact .inl (Pa m5 hu).2.1
         . exact(RW m5 hu).1
       . obtain⟨rfl,rfl,e3⟩:=M6 m4 hu;exact fin (e3 _ _) he
       . cases q<;>simp[AOp.isLoadB] at m4;rename_i i n x;obtain⟨rfl,rfl,e3⟩:=MY hu;refine fin (e3 bx hp ?_) he;refine((RW m5 he).2 i ?_).symm;intro e;rw[e] at m6;simp[AOp.readsBox,PC] at m6
       . obtain⟨rfl,rfl,e3⟩:=yW m4 he;exact fin hu (e3 _ _ (zq m5 hu))
     . exact h.elim
 . exact h.elim
def AOper.eff(o:AOper)(s:List V):Option AOp:=
 match o.guard with
 |none=>some o.op
 | some (g,want)=>match get s g with
   |.bool b=>if b=want then some o.op else some (.mv (.c (.tup [])))
   |.tup []=>some (.mv (.c (.tup [])))
   |_=>none
theorem Pg(o:AOper)(k:St->Prop)(st:St):CC o k st=match o.eff st.sl with|some p=>Bg p o.dst k st|none=>False:=by
 unfold CC AOper.eff
 cases o.guard with
 |none=>rfl
 | some gw=>
   obtain⟨g,want⟩:=gw;simp only;generalize get st.sl g=u
   cases u with
   | bool b=>
     by_cases h:b=want
     . simp only[Ac h]
     . simp only[Ae h];rfl
   |tup vs=>cases vs<;>rfl
   |_=>rfl
theorem Z9{o:AOper}{s s':List V}(h:Agree o.looks s s'):o.eff s'=o.eff s:=by
 unfold AOper.eff
 cases hg:o.guard with
 |none=>rfl
 | some gw=>
   obtain⟨g,want⟩:=gw;simp only;rw[h g (by simp[AOper.looks,hg])]
theorem LM{o:AOper}{s:List V}{p:AOp}(h:o.eff s=some p):p=o.op\/p= .mv (.c (.tup [])):=by
 unfold AOper.eff at h;split at h
 . exact .inl (C9 h).symm
 . split at h
   . split at h
     . exact .inl (C9 h).symm
     . exact .inr (C9 h).symm
   . exact .inr (C9 h).symm
   . cases h
theorem aL{o:AOp}{d:Option Nat}{k k':St->Prop}{st:St}(hb:o.clearsBox=false)(h:∀ v bx hp,k ⟨Fj st.sl d v,bx,hp⟩=k' ⟨Fj st.sl d v,bx,hp⟩):Bg o d k st=Bg o d k' st:=by
 obtain⟨sl,bx,hp⟩:=st;by_cases hc:o.isCall=true
 . cases o<;>simp[AOp.isCall] at hc;rename_i kp f args;simp only[Bg]
   have e:(λ r h'=>k (St.put ⟨sl,bx,h'⟩ d r))=(λ r h'=>k' (St.put ⟨sl,bx,h'⟩ d r)):=by
    funext r h';rw[L3];exact h r bx h'
   rw[e]
 . have hc':o.isCall=false:=by simpa using hc
   rw[Ix hc' hb,Ix hc' hb];split
   . exact h _ _ _
   . rfl
theorem x9 {kp:KP} {f:Be} {args:List Opnd} {x:Opnd} {dp dq:Option Nat} {k:St->Prop} {st:St} (hk:kp= .all) (hp1:HK dp x.slots=true) (hq1:HK dq (XH args)=true) (hd:RG dp dq=true)
 (h:Bg (.callB kp f args) dp (Bg (.mv x) dq k) st):Bg (.mv x) dq (Bg (.callB kp f args) dp k) st:=by
 subst hk
 obtain⟨sl,bx,hp⟩:=st
 rw[Ix rfl rfl]
 simp only[Af]
 rw[WG] at h ⊢
 simp only[ZU args (KG hq1)]
 obtain⟨h1,Q0,h2,h4⟩:=h
 refine⟨h1,Q0,h2,λ r h' hq=>?_⟩
 obtain⟨k1,k2⟩:=h4 r h' hq
 refine⟨k1,?_⟩
 simp only[L3,Ix (o:=.mv x) rfl rfl,Af] at k2 ⊢
 rw[Bw (KG hp1:Agree x.slots sl (Fj sl dp r)),aa _ _ _ _ _ hd] at k2
 exact k2
theorem jh{p q:AOper}{k:St->Prop}{st:St}(hs:FC p q=true)(h:CC p (CC q k) st):CC q (CC p k) st:=by
 unfold FC at hs;simp only[Ah,Cp] at hs;obtain⟨⟨⟨h1,h2⟩,h3⟩,h4|⟨⟨h4,h5⟩,h6⟩⟩:=hs
 case inr=>
  rw[Pg] at h ⊢
  have hqe:q.eff st.sl=some q.op:=by
   unfold AOper.eff
   cases hg:q.guard with
   |none=>rfl
   |some g=>rw[hg] at h6;cases h6
  have hqe':∀ st':St,q.eff st'.sl=some q.op:=by
   intro st';unfold AOper.eff
   cases hg:q.guard with
   |none=>rfl
   |some g=>rw[hg] at h6;cases h6
  have eq:∀ st',CC q k st'=Bg q.op q.dst k st':=λ st'=>by rw[Pg,hqe']
  rw[hqe];simp only
  have hq1:Agree q.op.uses st.sl st.sl:=λ _ _=>rfl
  cases hop:q.op<;>simp[AOp.isMv,hop] at h5;rename_i x;have cb:(AOp.mv x).clearsBox=false:=rfl
  have h1':HK p.dst x.slots=true:=by have:=V7 h1;rw[hop] at this;exact this
  cases hp:p.eff st.sl with
  |none=>rw[hp] at h;exact h.elim
  | some p'=>
    rw[hp] at h;simp only at h;rw[hop] at eq;have ek:CC q k=Bg (.mv x) q.dst k:=funext eq;rw[ek] at h
    have e2:Bg (.mv x) q.dst (CC p k) st=Bg (.mv x) q.dst (Bg p' p.dst k) st:=
     aL cb λ v bx hh=>by rw[Pg,Z9 (KG h2)];simp only[hp]
    rw[e2];rcases LM hp with rfl|rfl
    . cases hpo:p.op<;>simp[AOp.isKeep,hpo] at h4;rename_i kp f args;cases kp<;>simp at h4;rw[hpo] at h;exact x9 rfl h1' (by have:=V7 h2;rw[hpo] at this;exact this) h3 h
    . exact lv h1' (by cases q.dst<;>rfl) h3 rfl h
 have h4':=h4;unfold K3 at h4';simp only[Ah,BC] at h4';obtain⟨⟨⟨m1,m2⟩,m3⟩,m4⟩:=h4';rw[Pg] at h ⊢
 cases hp:p.eff st.sl with
 |none=>rw[hp] at h;exact h.elim
 | some p'=>
   rw[hp] at h;simp only at h
   have cp:p'.clearsBox=false:=by rcases LM hp with rfl|rfl<;>first|exact m1|rfl
   have e1:Bg p' p.dst (CC q k) st=Bg p' p.dst (λ st'=>match q.eff st.sl with|some q'=>Bg q' q.dst k st'|none=>False) st:=
    aL cp λ v bx hp=>by rw[Pg,Z9 (KG h1)]
   rw[e1] at h
   cases hq:q.eff st.sl with
   | none=>
     rw[hq] at h;simp only at h
     have hpc:p'.isCall=false:=by rcases LM hp with rfl|rfl<;>first|exact m3|rfl
     obtain⟨sl,bx,hh⟩:=st;rw[Ix hpc cp] at h;split at h<;>exact h
   | some q'=>
     rw[hq] at h;simp only at h ⊢
     have cq:q'.clearsBox=false:=by rcases LM hq with rfl|rfl<;>first|exact m2|rfl
     have e2:Bg q' q.dst (CC p k) st=Bg q' q.dst (Bg p' p.dst k) st:=
      aL cq λ v bx hh=>by rw[Pg,Z9 (KG h2)];simp only[hp]
     rw[e2];refine lv (k:=k) ?_ ?_ h3 ?_ h
     . rcases LM hq with rfl|rfl
       . exact V7 h1
       . cases p.dst<;>rfl
     . rcases LM hp with rfl|rfl
       . exact V7 h2
       . cases q.dst<;>rfl
     . rcases LM hp with rfl|rfl<;>rcases LM hq with rfl|rfl
       . exact h4
       . exact xR m1 m3 rfl rfl
       . exact yo rfl rfl rfl m2
       . rfl
inductive Mkr where|p|s (n:Nat)
def Mkr.v:Mkr->Nat->V
 |.p,m=>.ptr m 0
 |.s n,m=>.slice m 0 n
theorem Mkr.inj{a b:Mkr}{m n:Nat}(h:a.v m=b.v n):m=n:=by
 cases a<;>cases b<;>simp[Mkr.v] at h
 . exact h
 . exact h.1
def AOp.cst:AOp->Option (Mkr×Blk)
 |.allocH zs=>if zs.all V.flat then some (.p,⟨.own,1,zs⟩) else none
 |.litSlice w n zs ps=>if n != 0&&decide (0<w)&&zs.length == n*w&&zs.all V.flat&&(SB ps).isEmpty then (match Fe [] zs ps with
  |some cs=>if cs.all V.flat then some (.s n,⟨.own,w,cs⟩) else none
  |none=>none) else none
 |_=>none
def AOper.cst(o:AOper):Option (Mkr×Blk):=match o.guard with|none=>o.op.cst|some _=>none
theorem zt{v:V}(h:v.flat=true):v.cell=true:=by cases v<;>first|rfl|cases h
theorem jk{l:List V}(h:l.all V.flat=true):l.all V.cell=true:=by
 rw[Dz] at h ⊢
 exact λ v hv=>zt (h v hv)
theorem aQ{o:AOp}{mk:Mkr}{b:Blk}(h:o.cst=some (mk,b)):(∀ sl bx hp,Af o ⟨sl,bx,hp⟩=some (mk.v hp.length,bx,hp++[b]))/\b.cs.all V.flat=true/\b.k= .own/\0<b.w/\o.isCall=false/\o.clearsBox=false:=by
 cases o<;>simp only[AOp.cst,reduceCtorEq] at h
 case allocH zs=>
  split at h
  . rename_i hz;cases h;refine⟨λ sl bx hp=>?_,hz,rfl,Nat.one_pos,rfl,rfl⟩;simp only[Af,Ac (jk hz)];rfl
  . cases h
 case litSlice w n zs ps=>
  split at h
  . rename_i hc;simp only[Ah,Sb,HB,Ar,A0,List.isEmpty_iff] at hc;obtain⟨⟨⟨⟨c1,c2⟩,c3⟩,c4⟩,c5⟩:=hc;split at h
    . rename_i cs hf;split at h
      . rename_i hz;cases h;refine⟨λ sl bx hp=>?_,hz,rfl,c2,rfl,rfl⟩
        have:Fe sl zs ps=some cs:=by rw[<- hf];exact VV ps zs (by rw[c5];intro t ht;cases ht)
        simp only[Af,Ae c1,Ac (And.intro (jk c4) (And.intro c3 c2)),this];rfl
      . cases h
    . cases h
  . cases h
theorem Rel.mono2{ι ι':AA}{σ σ':Ad}{β:Nat->Nat}{v:V}{x:Value}(k:∀ l blk,σ[l]?=some blk->0<blk.w->ι' l=ι l/\∃ blk',σ'[l]?=some blk'/\blk'.w=blk.w)(h:Rel ι σ β v x):Rel ι' σ' β v x:=by
 induction h with
 |undef x=>exact .undef x
 |bool b=>exact .bool b
 |int k n=>exact .int k n
 |str s=>exact .str s
 |nils a=>exact .nils a
 | slice l o n c blk h hn hc hw=>
   obtain⟨e0,b1,h1,e1⟩:=k l blk h hw;have:=Rel.slice (ι:=ι') (σ:=σ') (β:=β) l o n c b1 h1 hn (by rw[e0,e1];exact hc) (by rw[e1];exact hw);rwa [e0] at this
 | sliceEnd l o blk h a hw=>
   obtain⟨_,b1,h1,e1⟩:=k l blk h hw;exact .sliceEnd l o b1 h1 a (by rw[e1];exact hw)
 |box i o=>exact .box i o
 | ptr l o blk h hw=>
   obtain⟨e0,b1,h1,e1⟩:=k l blk h hw;have:=Rel.ptr (ι:=ι') (σ:=σ') (β:=β) l o b1 h1 (by rw[e1];exact hw);rwa [e0] at this
 |nilIfc=>exact .nilIfc
 |ifc t v=>exact .ifc t v
 |agg cs ws hl hk h ih=>exact .agg cs ws hl hk λ i v w hv hw=>ih i v w hv hw
 |tup cs ws hl hk h ih=>exact .tup cs ws hl hk λ i v w hv hw=>ih i v w hv hw
theorem oB{ι ι' ι2:AA}{k h1 h2:Ad}{β:Nat->Nat}{v:V}{x x0:Value}(hg:∀ l blk,k[l]?=some blk->0<blk.w->ι2 l=ι' l/\h1[l]?=some blk/\h2[l]?=some blk)(hc:v.cell=true)(r:Rel ι' h1 β v x)(r0:Rel ι k β v x0):Rel ι2 h2 β v x:=by
 cases v with
 | slice l o n=>
   obtain⟨b0,g0,_⟩:=G1 r0;have hw:=LI r0 g0;obtain⟨e,g1,g2⟩:=hg l b0 g0 hw;obtain⟨b1,g3,hc⟩:=G1 r;rw[g1] at g3;cases g3;rcases hc with⟨c,rfl,c1,c2⟩|⟨rfl,a,rfl⟩
   . have:=Rel.slice (ι:=ι2) (σ:=h2) (β:=β) l o n c b0 g2 c1 (by rw[e];exact c2) hw;rwa [e] at this
   . exact .sliceEnd l o b0 g2 a hw
 | ptr l o=>
   obtain⟨⟨b0,g0⟩,_⟩:=IB r0;have hw:=Wn r0 g0;obtain⟨e,g1,g2⟩:=hg l b0 g0 hw;have h2':=(IB r).2;have:=Rel.ptr (ι:=ι2) (σ:=h2) (β:=β) l o b0 g2 hw;rw[h2',<- e];exact this
 |undef=>cases hc
 |box i o=>cases hc
 |agg cs=>cases hc
 |tup cs=>cases hc
 |bool b=>cases r;exact .bool _
 |int k n=>cases r;exact .int _ _
 |str s=>cases r;exact .str _
 |nils=>cases r;exact .nils _
 |ifc b=>cases r<;>first|exact .nilIfc|exact .ifc _ _
theorem flat2{ι ι2:AA}{h1 h2:Ad}{β:Nat->Nat}{v:V}{x:Value}(hc:v.flat=true)(r:Rel ι h1 β v x):Rel ι2 h2 β v x:=by
 cases v<;>first|(cases hc;done)|(cases r<;>first|exact .bool _|exact .int _ _|exact .str _|exact .nils _|exact .nilIfc|exact .ifc _ _)
section
variable {P:Program} {ι0:AA} {σ0:Ad} {w0:World} {Φ:Phm} {st:St} {a:Act} {w:World} {Q:Exit->Act->World->Prop}
theorem xm {o:Oper} {ao:AOp} {mk:Mkr} {b:Blk} {n:Nat} {d:Option Nat} {K:Act->World->Prop} (hc:ao.cst=some (mk,b)) (hk:Fh P o.op ao=true) (hn:Φ n=some b) (hσ:σ0.length<=n) (hrep:C4 ι0 σ0 w0 Φ st a w) (hd:o.dst=d)
 (hK:∀ a' w',C4 ι0 σ0 w0 (λ m=>if m=n then none else Φ m) (st.put d (mk.v n)) a' w'->K a' w'):o.wp P a w K Q:=by
 obtain⟨hdf,hH,ι,β,H,B,S,T⟩:=hrep
 obtain⟨c1,c2,c3,c4,_,_⟩:=aQ hc
 generalize hkk:kill Φ st.hp=k at H B S T
 have hlen:k.length=st.hp.length:=by rw[<- hkk,Ep]
 have hnl:n<k.length:=by rw[hlen];exact hH.lt hn
 have hkn:k[n]?=some My:=by rw[<- hkk,Gr,hH n b hn,hn];rfl
 obtain⟨nx,x,w',ι',β',hrun,hnx,H',_,_,hv,T'⟩:=ky (st:=⟨st.sl,[],k⟩) (w0:=w) (β:=β) H ⟨by simp,by simp,by simp,by simp⟩ S (.refl ι k w) hk (c1 st.sl [] k)
 have hcl:ao.clears st.sl=st.sl:=by cases ao<;>first|rfl|cases hc
 have h1l:∀ l,l<k.length->(k++[b])[l]?=k[l]?:=λ l hl=>Bx hl
 have h1m:(k++[b])[k.length]?=some b:=by simp
 have h2n:(k.set n b)[n]?=some b:=by simp[hnl]
 have h2l:∀ l,l≠n->(k.set n b)[l]?=k[l]?:=λ l hl=>by rw[G7,Ae (Hv hl)]
 have hkill:kill (λ m=>if m=n then none else Φ m) st.hp=k.set n b:=by
  apply IG;intro l;by_cases hl:l=n
  . subst hl;rw[Gr,h2n,hH _ b hn];simp
  . rw[h2l l hl,<- hkk,Gr,Gr,Ae hl]
 have hH2:Has (λ m=>if m=n then none else Φ m) st.hp:=λ l c e=>by
  simp only at e;split at e
  . cases e
  . exact hH l c e
 generalize hι:(λ l=>if l=n then ι' k.length else ι' l)=ι2
 have ιn:ι2 n=ι' k.length:=by rw[<- hι];simp
 have ιl:∀ l,l≠n->ι2 l=ι' l:=λ l hl=>by rw[<- hι];simp[hl]
 have hne:∀ l blk,k[l]?=some blk->0<blk.w->l≠n:=λ l blk hb hw e=>by
  subst e;rw[hkn] at hb;cases hb;simp[My] at hw
 have hg:∀ l blk,k[l]?=some blk->0<blk.w->ι2 l=ι' l/\(k++[b])[l]?=some blk/\(k.set n b)[l]?=some blk:=λ l blk hb hw=>
  ⟨ιl l (hne l blk hb hw),by rw[h1l l (Ce hb)];exact hb,by rw[h2l l (hne l blk hb hw)];exact hb⟩
 have hm:∀ l blk,k[l]?=some blk->0<blk.w->ι2 l=ι l/\∃ blk',(k.set n b)[l]?=some blk'/\blk'.w=blk.w:=λ l blk hb hw=>
  ⟨by rw[ιl l (hne l blk hb hw),T'.keeps.place l blk hb],blk,(hg l blk hb hw).2.2,rfl⟩
 have num:∀ l blk,(k.set n b)[l]?=some blk->∃ j,(k++[b])[j]?=some blk/\ι2 l=ι' j/\((l=n/\j=k.length/\blk=b)\/(l≠n/\j=l/\k[l]?=some blk)):=λ l blk hb=>by
  by_cases hl:l=n
  . subst hl;rw[h2n] at hb;cases hb;exact⟨k.length,h1m,ιn,.inl ⟨rfl,rfl,rfl⟩⟩
  . rw[h2l l hl] at hb;exact⟨l,by rw[h1l l (Ce hb)];exact hb,ιl l hl,.inr ⟨hl,rfl,hb⟩⟩
 have H2:HRel ι2 (k.set n b) w':=by
  refine⟨λ l blk hl hkd i v hvi=>?_,λ l blk hl hk=>?_,λ l l' blk blk' hne' hl hl' hk hk'=>?_,λ l blk hl hk=>?_⟩
  . obtain⟨j,hj,ej,hcase⟩:=num l blk hl;obtain⟨q1,x,q2,q3⟩:=H'.cells j blk hj hkd i v hvi;refine⟨q1,x,by rw[ej];exact q2,λ β=>?_⟩;rcases hcase with⟨_,_,rfl⟩|⟨_,_,hb⟩
    . exact flat2 (Dz.1 c2 v (HG hvi)) (q3 β)
    . obtain⟨_,x0,_,q4⟩:=H.cells l blk hb hkd i v hvi;exact oB hg q1 (q3 β) (q4 β)
  . obtain⟨j,hj,ej,_⟩:=num l blk hl;rw[ej];exact H'.own j blk hj hk
  . obtain⟨j,hj,ej,hcase⟩:=num l blk hl;obtain⟨j',hj',ej',hcase'⟩:=num l' blk' hl';rw[ej,ej'];refine H'.apart j j' blk blk' (λ e=>?_) hj hj' hk hk';rcases hcase with⟨a1,a2,_⟩|⟨a1,a2,a3⟩<;>rcases hcase' with⟨b1,b2,_⟩|⟨b1,b2,b3⟩
    . exact hne' (by rw[a1,b1])
    . have:=Ce b3;omega
    . have:=Ce a3;omega
    . exact hne' (by omega)
  . obtain⟨j,hj,ej,_⟩:=num l blk hl;rw[ej];exact H'.there j blk hj hk
 have B':=ju B T'
 have B2:BRel ι2 (k.set n b) β st.bx w0 w':=by
  refine⟨λ i cs hi hne=>?_,B'.new,B'.apart,λ i cs l blk hi hne hl hk=>?_⟩
  . obtain⟨arr,e,p1,p2,p3⟩:=B'.cells i cs hi hne;refine⟨arr,e,p1,p2,λ j v hv=>?_⟩;obtain⟨q1,x,q2,q3⟩:=p3 j v hv;obtain⟨_,_,_,_,p4⟩:=B.cells i cs hi hne;obtain⟨_,x0,_,q4⟩:=p4 j v hv;exact⟨q1,x,q2,λ β'=>oB hg q1 (q3 β') (q4 β')⟩
  . obtain⟨j,hj,ej,_⟩:=num l blk hl;rw[ej];exact B'.heap i cs j blk hi hne hj hk
 have S2:SRel ι2 (k.set n b) β st.sl a.tmps:=⟨S.1,λ i=>(S.2 i).mono2 hm⟩
 have T2:=T.trans T'
 have small:∀ l blk,σ0[l]?=some blk->l≠n/\(k.set n b)[l]?=(k++[b])[l]?:=λ l blk hb=>by
  have hl:l≠n:=by have:=Ce hb;omega
  have hlk:l<k.length:=by have:=Ce hb;omega
  exact⟨hl,by rw[h2l l hl,h1l l hlk]⟩
 have T3:Step ι0 σ0 w0 ι2 (k.set n b) w':={
  keeps:=⟨λ l blk hb=>by rw[ιl l (small l blk hb).1];exact T2.keeps.place l blk hb,λ l blk hb=>by rw[(small l blk hb).2];exact T2.keeps.width l blk hb⟩
  kinds:=λ l blk blk' hb hb'=>T2.kinds l blk blk' hb (by rw[<- (small l blk hb).2];exact hb')
  fresh:=λ l blk' hl hb hk=>by
   obtain⟨j,hj,ej,hcase⟩:=num l blk' hb;rw[ej];exact T2.fresh j blk' (by rcases hcase with⟨_,h,_⟩|⟨_,h,_⟩<;>omega) hj hk
  frame:=T2.frame,size:=T2.size,os:=T2.os,output:=T2.output,tape:=T2.tape }
 have hv2:Rel ι2 (k.set n b) β (mk.v n) x:=by
  cases mk with
  | p=>
    have h2':=(IB (show Rel ι' (k++[b]) β' (.ptr k.length 0) x from hv)).2;have:=Rel.ptr (ι:=ι2) (σ:=k.set n b) (β:=β) n 0 b h2n c4;rw[h2',<- ιn];exact this
  | s c0=>
    have hv':Rel ι' (k++[b]) β' (.slice k.length 0 c0) x:=hv;obtain⟨b1,g3,hcc⟩:=G1 hv';rw[h1m] at g3;cases g3;rcases hcc with⟨c,rfl,e1,e2⟩|⟨rfl,a,rfl⟩
    . have:=Rel.slice (ι:=ι2) (σ:=k.set n b) (β:=β) n 0 c0 c b h2n e1 (by rw[ιn];exact e2) c4;rwa [ιn] at this
    . exact .sliceEnd n 0 b h2n a c4
 subst hd
 unfold Oper.wp
 rw[hrun]
 have fin:C4 ι0 σ0 w0 (λ m=>if m=n then none else Φ m) (St.put ⟨st.sl,st.bx,st.hp⟩ o.dst (mk.v n)) (a.put o.dst x) w':=
  PI hdf hH2 (by rw[hkill];exact H2) (by rw[hkill];exact B2) (by rw[hkill];exact S2) (by rw[hkill];exact hv2) (by rw[hkill];exact T3)
 rcases hnx with rfl|⟨rfl,rfl⟩
 . exact hK _ _ fin
 . exact hK _ _ fin
theorem zW(hrep:C4 ι0 σ0 w0 Φ st a w)(b:Blk):C4 ι0 σ0 w0 (λ m=>if m=st.hp.length then some b else Φ m) ⟨st.sl,st.bx,st.hp++[b]⟩ a w:=by
 obtain⟨hdf,hH,ι,β,H,B,S,T⟩:=hrep
 have hk:kill (λ m=>if m=st.hp.length then some b else Φ m) (st.hp++[b])=kill Φ st.hp++[My]:=by
  apply IG;intro l;rw[Gr];rcases Nat.lt_trichotomy l st.hp.length with hl|hl|hl
  . rw[Bx hl,Bx (by rw[Ep];exact hl),Gr,Ae (by omega)]
  . subst hl;rw[Db (BI _),Db (by rw[Ep];exact BI _)];simp[Ep]
  . rw[BV (by simp;omega),BV (by simp[Ep];omega)];rfl
 have hH2:Has (λ m=>if m=st.hp.length then some b else Φ m) (st.hp++[b]):=λ l c e=>by
  simp only at e;split at e
  . rename_i hl;cases e;subst hl;simp
  . rw[Bx (hH.lt e)];exact hH l c e
 have Kp:Keeps ι (kill Φ st.hp) ι (kill Φ st.hp++[My]):=⟨λ _ _ _=>rfl,λ l c h=>⟨c,by rw[Bx (Ce h)];exact h,rfl⟩⟩
 have nd:∀ {l:Nat} {c:Blk},(kill Φ st.hp++[My])[l]?=some c->c.k≠.dead->(kill Φ st.hp)[l]?=some c:=λ h hd=>by
  rcases Gq h with⟨_,h⟩|⟨_,rfl⟩
  . exact h
  . exact absurd rfl hd
 refine⟨hdf,hH2,ι,β,?_,?_,?_,?_⟩
 . rw[hk];refine⟨λ l c hl hd i v hv=>?_,λ l c hl hd=>H.own l c (nd hl (by rw[hd];decide)) hd,λ l l' c c' hne hl hl' hd hd'=>H.apart l l' c c' hne (nd hl (by rw[hd];decide)) (nd hl' hd') hd hd',λ l c hl hd=>H.there l c (nd hl hd) hd⟩;obtain⟨q1,x,q2,q3⟩:=H.cells l c (nd hl hd) hd i v hv;exact⟨q1,x,q2,λ β=>(q3 β).cellMono Kp q1⟩
 . rw[hk]
   exact B.mono Kp (λ _ _ _ _=>rfl) (BI _) λ i cs l c hi hne hl hd=>B.heap i cs l c hi hne (nd hl hd) hd
 . rw[hk];exact S.mono Kp
 . rw[hk];refine T.trans { Step.refl ι (kill Φ st.hp) w with keeps:=Kp,kinds:=λ l c c' h h'=>.inl ?_,fresh:=λ l c hl h hd=>?_ }
   . rw[Bx (Ce h),h] at h';cases h';rfl
   . have:=Ce (nd h hd);omega
theorem ZaB(hrep:C4 ι0 σ0 w0 Φ st a w):σ0.length<=st.hp.length:=by
 obtain⟨_,_,ι,β,H,B,S,T⟩:=hrep;rcases BN st.hp.length σ0.length with h|h
 . obtain⟨blk,hb⟩:=Pn h;obtain⟨b1,h1,_⟩:=T.keeps.width _ blk hb;have:=Ce h1;rw[Ep] at this;omega
 . exact h
def Mq:Phm->Nat->List Blk->Phm
 |Φ,_,[]=>Φ
 |Φ,n,b::r=>Mq (λ m=>if m=n then some b else Φ m) (n+1) r
theorem iY:∀ (bs:List Blk) {Φ:Phm} {st:St},C4 ι0 σ0 w0 Φ st a w->C4 ι0 σ0 w0 (Mq Φ st.hp.length bs) ⟨st.sl,st.bx,st.hp++bs⟩ a w
 |[],Φ,st,h=>by simpa [Mq] using h
 | b::r,Φ,st,h=>by
   have:=iY r (zW h b)
   simpa [Mq] using this
end
def Le(o:AOper)(v:V):AOper:={ o with op:=.mv (.c v) }
def Ck:List AOper->Nat->List AOper
 |[],_=>[]
 | o::r,n=>match o.cst with
   |some (mk,_)=>Le o (mk.v n)::Ck r (n+1)
   |none=>o::r
def GI:List AOper->List Blk
 |[]=>[]
 | o::r=>match o.cst with
   |some (_,b)=>b::GI r
   |none=>[]
def FI:List AOper->Nat->AOper->Nat->Blk->Prop
 |[],_,_,_,_=>False
 | o::r,n,ao,m,b=>match o.cst with
   |some (mk,b0)=>(ao=Le o (mk.v n)/\m=n/\b=b0)\/FI r (n+1) ao m b
   |none=>False
theorem ah{k:St->Prop}{bx:List (List V)}:∀ (l:List AOper) (sl:List V) (h:Ad),Dh l k ⟨sl,bx,h⟩->Dh (Ck l h.length) k ⟨sl,bx,h++GI l⟩
 |[],sl,h,e=>by simpa [Ck,GI] using e
 | o :: r,sl,h,e=>by
   unfold Ck GI
   cases hc:o.cst with
   |none=>simpa using e
   | some p=>
     obtain⟨mk,b⟩:=p
     have hg:o.guard=none/\o.op.cst=some (mk,b):=by
      unfold AOper.cst at hc;split at hc
      . rename_i hg;exact⟨hg,hc⟩
      . cases hc
     obtain⟨c1,_,_,_,c5,c6⟩:=aQ hg.2;simp only;unfold Dh CC at e;rw[hg.1] at e;simp only at e;rw[Ix c5 c6,c1] at e;simp only at e;have:=ah r _ _ e;rw[Co] at this;unfold Dh CC Le;simp only[hg.1,Bg,Af,AOp.clears,Opnd.ev,L3];simpa using this
theorem Nu:∀ {l:List AOper} {n:Nat} {ao:AOper} {m:Nat} {b:Blk},FI l n ao m b->ao∈Ck l n/\n<=m/\∃ o∈l,∃ mk,o.cst=some (mk,b)/\ao=Le o (mk.v m)
 |[],_,_,_,_,h=>h.elim
 | o :: r,n,ao,m,b,h=>by
   unfold FI at h
   unfold Ck
   cases hc:o.cst with
   |none=>rw[hc] at h;exact h.elim
   | some p=>
     obtain⟨mk,b0⟩:=p
     rw[hc] at h
     simp only at h ⊢
     rcases h with⟨rfl,rfl,rfl⟩|h
     . exact⟨by simp,BI _,o,by simp,mk,hc,rfl⟩
     . obtain⟨h1,h2,o',h3,h4⟩:=Nu h
       exact⟨by simp[h1],by omega,o',by simp[h3],h4⟩
theorem lC:∀ {l:List AOper} {n:Nat} {ao ao':AOper} {m:Nat} {b b':Blk},FI l n ao m b->FI l n ao' m b'->ao=ao'/\b=b'
 |[],_,_,_,_,_,_,h,_=>h.elim
 | o :: r,n,ao,ao',m,b,b',h,h'=>by
   unfold FI at h h'
   cases hc:o.cst with
   |none=>rw[hc] at h;exact h.elim
   | some p=>
     obtain⟨mk,b0⟩:=p
     rw[hc] at h h'
     simp only at h h'
     rcases h with⟨rfl,rfl,rfl⟩|h
     . rcases h' with⟨rfl,_,rfl⟩|h'
       . exact⟨rfl,rfl⟩
       . have:=(Nu h').2.1;omega
     . rcases h' with⟨rfl,rfl,rfl⟩|h'
       . have:=(Nu h).2.1;omega
       . exact lC h h'
theorem Zcr{l:List AOper}{n:Nat}{ao:AOper}{m m':Nat}{b b':Blk}(h:FI l n ao m b)(h':FI l n ao m' b'):m=m':=by
 obtain⟨_,_,o,_,mk,_,e⟩:=Nu h;obtain⟨_,_,o',_,mk',_,e'⟩:=Nu h';rw[e'] at e;have:=congrArg AOper.op e;simp only[Le,AOp.mv.injEq,Opnd.c.injEq] at this;exact(Mkr.inj this).symm
theorem lQ:∀ {l:List AOper} {n:Nat} {ao:AOper},ao∈Ck l n->(∃ m b,FI l n ao m b)\/ao∈l
 |[],_,_,h=>by simp[Ck] at h
 | o :: r,n,ao,h=>by
   unfold Ck at h
   unfold FI
   cases hc:o.cst with
   |none=>rw[hc] at h;exact .inr h
   | some p=>
     obtain⟨mk,b0⟩:=p
     rw[hc] at h
     simp only[Cz] at h ⊢
     rcases h with rfl|h
     . exact .inl ⟨n,b0,.inl ⟨rfl,rfl,rfl⟩⟩
     . rcases lQ h with⟨m,b,h⟩|h
       . exact .inl ⟨m,b,.inr h⟩
       . exact .inr (.inr h)
theorem lV:∀ (l:List AOper) (n:Nat) (Φ:Phm),(∀ m b,Φ m=some b->m<n)->∀ m b,Mq Φ n (GI l) m=some b↔Φ m=some b\/∃ ao∈Ck l n,FI l n ao m b
 |[],n,Φ,_,m,b=>by simp[GI,Mq,Ck]
 | o :: r,n,Φ,hΦ,m,b=>by
   unfold GI Ck FI
   cases hc:o.cst with
   |none=>simp[Mq]
   | some p=>
     obtain⟨mk,b0⟩:=p
     simp only[Mq]
     rw[lV r (n+1) _ (λ m b h=>by
      split at h
      . omega
      . have:=hΦ m b h;omega) m b]
     constructor
     . rintro(h|⟨ao,h1,h2⟩)
       . split at h
         . rename_i hm;cases h;exact .inr ⟨_,by simp,.inl ⟨rfl,hm,rfl⟩⟩
         . exact .inl h
       . exact .inr ⟨ao,by simp[h1],.inr h2⟩
     . rintro(h|⟨ao,h1,⟨rfl,rfl,rfl⟩|h2⟩)
       . left
         have:=hΦ m b h
         rw[Ae (by omega)];exact h
       . left;simp
       . exact .inr ⟨ao,(Nu h2).1,h2⟩
def D6(o:AOper):AOper:=match o.op with
 |.mv (.c _)=>Le o .undef
 |_=>o
theorem Ju(o:AOper):(D6 o).id=o.id/\(D6 o).anc=o.anc/\(D6 o).dst=o.dst/\(D6 o).guard=o.guard:=by
 unfold D6;split<;>exact⟨rfl,rfl,rfl,rfl⟩
theorem R9:∀ (l:List AOper) (n n':Nat),(Ck l n).map D6=(Ck l n').map D6
 |[],_,_=>rfl
 | o :: r,n,n'=>by
   unfold Ck
   cases o.cst with
   |none=>rfl
   | some p=>
     simp only[Cr,R9 r (n+1) (n'+1)]
     rfl
theorem bc:∀ (l:List AOper) (n:Nat),(Ck l n).map (·.id)=l.map (·.id)/\(Ck l n).length=l.length
 |[],_=>⟨rfl,rfl⟩
 | o :: r,n=>by
   unfold Ck
   cases o.cst with
   |none=>exact⟨rfl,rfl⟩
   | some p=>
     obtain⟨h1,h2⟩:=bc r (n+1)
     exact⟨by simp only[Cr,h1];rfl,by simp[h2]⟩
theorem Zcu(p q:AOper):FC (D6 p) (D6 q)=FC p q:=by
 have h1:∀ q,FC (D6 p) q=FC p q:=by
  intro q;unfold D6;split
  . rename_i v hv;obtain⟨pi,pd,po,pg,pa⟩:=p;simp only at hv;subst hv;rfl
  . rfl
 rw[h1];unfold D6;split
 . rename_i v hv;obtain⟨pi,pd,po,pg,pa⟩:=q;simp only at hv;subst hv;rfl
 . rfl
end
end Go.Ag
