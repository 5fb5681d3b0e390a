/- Part 1 of what FnExactPress needs. No conditions. -/
import GoSem.Core.View
import Derived.Orders
import GoSem.Claims
import Derived.Laws.AppendOwn
import Derived.Laws.MakeOwn
import Derived.Laws.Cells
import Derived.Laws.Strings
import Derived.Laws.StructEq
import Derived.Laws.Slices
import Derived.Laws.Concat
import Derived.Laws.BytesString
import Derived.Laws.Pointers
import Derived.Laws.CopyRow
import Derived.Laws.Rows
namespace Go.Ag
set_option linter.unusedSimpArgs false
set_option linter.unusedVariables false
noncomputable section
abbrev MX:=@Array.getD_eq_getD_getElem?
abbrev Th:=@Array.getElem?_setIfInBounds
abbrev F0:=@Bool.and_eq_false_iff
abbrev Ai:=@Bool.and_eq_true
abbrev Dy:=@Bool.and_self
abbrev MT:=@Bool.and_true
abbrev JS:=@Bool.eq_iff_iff
abbrev LP:=@Bool.false_and
abbrev AY:=@Bool.false_eq_true
abbrev Jb:=@Bool.not_eq_false
abbrev BZ:=@Bool.not_eq_false'
abbrev Gr:=@Bool.not_eq_true
abbrev Bq:=@Bool.not_eq_true'
abbrev I7:=@Bool.not_not
abbrev Gp:=@Bool.not_true
abbrev Ce:=@Bool.or_eq_false_iff
abbrev B7:=@Bool.or_eq_true
abbrev HG:=@Bool.true_and
abbrev MN:=@Int.natCast_zero
abbrev CM:=@Int.ofNat_lt
abbrev AG:=@Int.toNat_natCast
abbrev FW:=@List.all_cons
abbrev Dw:=@List.all_eq_true
abbrev XG:=@List.all_nil
abbrev Cb:=@List.append_assoc
abbrev Qy:=@List.append_nil
abbrev SX:=@List.append_of_mem
abbrev Gq:=@List.cons.injEq
abbrev Dn:=@List.cons_append
abbrev dx:=@List.contains_eq_mem
abbrev Qr:=@List.drop_eq_getElem_cons
abbrev IZ:=@List.drop_zero
abbrev Df:=@List.eq_nil_of_length_eq_zero
abbrev Qw:=@List.exists_mem_of_ne_nil
abbrev XX:=@List.ext_getElem
abbrev IU:=@List.ext_getElem?
abbrev XF:=@List.extract_eq_take_drop
abbrev HM:=@List.flatten_cons
abbrev CQ:=@List.getD_eq_getElem?_getD
abbrev Bi:=@List.getElem?_append_left
abbrev Da:=@List.getElem?_append_right
abbrev SS:=@List.getElem?_cons_succ
abbrev LB:=@List.getElem?_drop
abbrev A9:=@List.getElem?_eq_getElem
abbrev BO:=@List.getElem?_eq_none
abbrev HI:=@List.getElem?_map
abbrev dt:=@List.getElem?_mapIdx
abbrev JH:=@List.getElem?_of_mem
abbrev G3:=@List.getElem?_set
abbrev dK:=@List.getElem?_set_self
abbrev IX:=@List.getElem?_take
abbrev Oo:=@List.getElem?_take_of_lt
abbrev E3:=@List.getElem_mem
abbrev IW:=@List.getElem_of_mem
abbrev CO:=@List.length_append
abbrev A0:=@List.length_cons
abbrev Qo:=@List.length_drop
abbrev Bd:=@List.length_map
abbrev A8:=@List.length_nil
abbrev Db:=@List.length_take
abbrev FT:=@List.map_append
abbrev Cf:=@List.map_cons
abbrev MM:=@List.map_nil
abbrev XK:=@List.map_take
abbrev CN:=@List.mem_append
abbrev dL:=@List.mem_append_left
abbrev dT:=@List.mem_append_right
abbrev Cu:=@List.mem_cons
abbrev G6:=@List.mem_cons_self
abbrev IV:=@List.mem_map_of_mem
abbrev HL:=@List.mem_of_getElem?
abbrev Lw:=@List.mem_of_mem_take
abbrev CJ:=@List.nil_append
abbrev Qs:=@List.nodup_append
abbrev ML:=@List.nodup_cons
abbrev XW:=@List.size_toArray
abbrev XO:=@List.take_add_one
abbrev FQ:=@List.take_length
abbrev Xy:=@List.take_of_length_le
abbrev dc:=@List.take_succ_cons
abbrev S9:=@Nat.add_assoc
abbrev DP:=@Nat.add_mul
abbrev c9:=@Nat.add_right_comm
abbrev E1:=@Nat.add_zero
abbrev N9:=@Nat.div_add_mod
abbrev Ta:=@Nat.div_lt_iff_lt_mul
abbrev dG:=@Nat.eq_zero_or_pos
abbrev Dg:=@Nat.le_of_ble_eq_true
abbrev BH:=@Nat.le_refl
abbrev CV:=@Nat.le_trans
abbrev HJ:=@Nat.lt_of_lt_of_le
abbrev Bx:=@Nat.lt_or_ge
abbrev S0:=@Nat.lt_succ_self
abbrev HK:=@Nat.mod_lt
abbrev Ly:=@Nat.mul_comm
abbrev G4:=@Nat.mul_le_mul_right
abbrev S6:=@Nat.mul_one
abbrev Oc:=@Nat.not_lt_zero
abbrev Fo:=@Nat.one_mul
abbrev XQ:=@Nat.sub_self
abbrev Qa:=@Nat.sub_zero
abbrev N5:=@Nat.succ_mul
abbrev BF:=@Nat.zero_add
abbrev EE:=@Nat.zero_le
abbrev Ln:=@Nat.zero_mul
abbrev HB:=@Ne.symm
abbrev Ca:=@Option.bind_eq_some_iff
abbrev II:=@Option.bind_some
abbrev IF:=@Option.getD_some
abbrev B9:=@Option.map_eq_some_iff
abbrev Cq:=@Option.map_some
abbrev C9:=@Option.some.inj
abbrev Ao:=@Option.some.injEq
abbrev An:=@Prod.mk.injEq
abbrev Dm:=@Result.andThen_ok
abbrev D1:=@Sem.run_bind
abbrev Qj:=@Sem.run_pure
abbrev Xb:=@World.cell?_of_block
abbrev HD:=@and_true
abbrev JF:=@beq_eq_false_iff_ne
abbrev A7:=@beq_iff_eq
abbrev SB:=@bne_iff_ne
abbrev Hz:=@cond_false
abbrev Hv:=@cond_true
abbrev Dl:=@decide_eq_false
abbrev Bm:=@decide_eq_false_iff_not
abbrev Gj:=@decide_eq_true
abbrev Av:=@decide_eq_true_eq
abbrev A3:=@if_false
abbrev Ae:=@if_neg
abbrev Ac:=@if_pos
abbrev AS:=@if_true
abbrev GZ:=@ne_eq
abbrev N4:=@not_true_eq_false
abbrev cD:=@run_bytesToString
abbrev Xk:=@run_sliceBound
abbrev SH:=@size_madeCells
abbrev Gk:=@true_and
inductive V where
 |undef|bool (b:Bool)|int (k:IntKind) (n:Int)|str (s:List UInt8)|b_|slice (l o n:Nat)|box (i o:Nat)|ptr (l o:Nat)|ifc (nil:Bool)|agg (cs:List V)|f7 (vs:List V)
 deriving Inhabited
inductive BK where
 |ro|own|dead
 deriving DecidableEq
structure Blk where
 k:BK
 w:Nat
 cs:List V
abbrev Ab:=List Blk
structure St where
 sl:List V
 bx:List (List V)
 hp:Ab
abbrev Bc:=List V->Ab->(V->Ab->Prop)->Prop
inductive T_ where
 |t (n:Nat)|c (v:V)
inductive KP where
 |no|all|box (i c:Nat)
inductive o_ where
 |mv (x:T_)|z_ (x:T_)|pick (c a b:T_)|e_ (i:Nat) (zs:List V)|boxB (i n:Nat) (x:T_)|allocH (zs:List V)|boxH (n:Nat) (x:T_)|build (zs:List V) (ps:List (Nat×Nat×T_))|mkSlice (w:Nat) (z:List V) (len:T_)|d5 (w n:Nat) (zs:List V) (ps:List (Nat×Nat×T_))|d7 (i:Nat) (n:Option Nat) (a:T_)|i5 (n:Option Nat) (a:T_)|loadX (i c:Nat) (n:Option Nat) (a:T_)|V_ (i n:Nat) (a x:T_)|f8 (n:Nat) (a x:T_)|bin (op:BinOp) (x y:T_)|eqB (neg:Bool) (x y:T_)|eqN (neg:Bool) (x y:T_)|eqA (n:Nat) (neg:Bool) (x y:T_)|un (op:UnOp) (x:T_)|conv (k:IntKind) (x:T_)|bstr (x:T_)|slice (w:Nat) (x:T_) (lo hi:Option T_)|substr (x:T_) (lo hi:Option T_)|f5 (off:Nat) (a:T_)|field (off:Nat) (n:Option Nat) (x:T_)|p_ (w:Nat) (x i:T_)|index (x i:T_)|len (x:T_)|lenT (x:T_)|app (w:Nat) (x y:T_)|appN (w:Nat) (x y:T_)|minI (x y:T_)|maxI (x y:T_)|extract (x:T_) (i:Nat)|callB (kp:KP) (f:Bc) (args:List T_)
@[reducible] def o_.call (f:Bc) (args:List T_):o_:=.callB .no f args
structure a_ where
 id:Nat
 dst:Option Nat
 op:o_
 guard:Option (Nat×Bool)
 anc:List Nat
inductive ACode where
 |skip|region (ops:List a_)|regionU (ops:List a_)|seq (a b:ACode)|cond (c:T_) (a b:ACode)|block (id:Nat) (a:ACode)|loop (live:List Nat) (a:ACode)|exit (id:Nat)|ret
inductive AExit where
 |normal|exit (id:Nat)|ret
inductive ARes where
 |tmp (t:Nat)|cell (t:Nat) (n:Option Nat)
structure AFun where
 nparams:Nat
 nslots:Nat
 nbox:Nat
 pure:Bool
 res:List ARes
 body:ACode
def get:List V->Nat->V
 |[],_=>.undef|x::_,0=>x|_::r,n+1=>get r n
def put:List V->Nat->V->List V
 |[],_,_=>[]|_::r,0,v=>v::r|x::r,n+1,v=>x::put r n v
def AZ:List (List V)->Nat->List V
 |[],_=>[]|x::_,0=>x|_::r,n+1=>AZ r n
def CU:List (List V)->Nat->List V->List (List V)
 |[],_,_=>[]|_::r,0,v=>v::r|x::r,n+1,v=>x::CU r n v
def Qz(bx:List (List V)):KP->Bc->Bc
 |.no,f=>f|.all,f=>λargs h Q=>∃b:V->Ab->Prop,f args h b/\∀r h',b r h'->(∀l,l<h.length->h'[l]?=h[l]?)/\Q r h'
 |.box i c,f=>λargs h Q=>∃b:V->Ab->Prop,f args h b/\∀r h',b r h'->(∀l o n,get (AZ bx i) c= .slice l o n->l<h.length->h'[l]?=h[l]?)/\Q r h'
def TE:V->V->Bool
 |.slice l _ _,.ptr l' _=>l == l'|_,_=>false
def d_:List V->Nat->List V->List V
 |cs,0,[]=>cs|[],0,_::_=>[]|_::r,0,v::vs=>v::d_ r 0 vs|[],_+1,_=>[]|c::r,n+1,vs=>c::d_ r n vs
def V.cells:V->List V
 |.agg cs=>cs|v=>[v]
def V.cell:V->Bool
 |.bool _|.int ..|.str _|.b_|.slice ..|.ptr ..|.ifc _=>true|_=>false
def V.flat:V->Bool
 |.bool _|.int ..|.str _|.b_|.ifc _=>true|_=>false
def V.flat1:V->Bool
 |.agg cs=>cs.all V.flat|v=>v.flat
def V.flat2:V->Bool
 |.f7 vs=>vs.all V.flat1|v=>v.flat1
def V.ok1:V->Bool
 |.agg cs=>cs.all V.cell|v=>v.cell
def T_.ev(s:List V):T_->V
 |.t n=>get s n|.c v=>v
def V.isBox(i:Nat):V->Bool
 |.box j _=>i == j|_=>false
def r_(i:Nat):List V->List V
 |[]=>[]|v::r=>(if v.isBox i then .undef else v)::r_ i r
def keep(live:List Nat):Nat->List V->List V
 |_,[]=>[]|n,v::r=>(if live.contains n then v else .undef)::keep live (n+1) r
def St.put(st:St)(d:Option Nat)(v:V):St:=
 match d with
 |none=>st|some d=>{ st with sl:=Ag.put st.sl d v }
def rd(h:Ab)(l o n:Nat):Option (List V):=
 match h[l]? with
 |some b=>if b.k≠.dead/\o+n<=b.cs.length then some ((b.cs.drop o).take n)else none|none=>none
def wr(h:Ab)(l o:Nat)(g:List V):Option Ab:=
 match h[l]? with
 |some b=>if b.k= .own/\o+g.length<=b.cs.length then some (h.set l { b with cs:=d_ b.cs o g })else none|none=>none
def AD(n:Nat):Prop:=n<=2^40
instance (n:Nat):Decidable (AD n):=inferInstanceAs (Decidable (n<=2^40))
def ED(h:Ab)(l:Nat):Option Nat:=
 match h[l]? with
 |some b=>some b.w|none=>none
def DJ(h:Ab)(w:Nat):V->Option (List V×Nat)
 |.b_=>some ([],0)|.slice l o n=>(rd h l o (n*w)).map λcs=>(cs,n)
 |.str s=>if w=1 then some (s.map λb=>.int .u8 b.toNat,s.length)else none
 |_=>none
def app (h:Ab)(w:Nat)(x y:V):Option (V×Ab):=
 match DJ h w y with
 |none=>none| some (new,k)=>
   match x with
   | .b_=>
     if k=0 then some (.b_,h)
     else if AD (k*w)then some (.slice h.length 0 k,h++[⟨.own,w,new⟩])else none
   | .slice l o n=>
     if k=0 then some (.slice l o n,h)
     else match h[l]? with
      | some b=>
        if b.k= .own/\b.w=w/\o=0/\n*w<=b.cs.length/\AD ((n+k)*w)then
         some (.slice h.length 0 (n+k),h.set l ⟨.dead,w,[]⟩++[⟨.own,w,b.cs.take (n*w)++new⟩])
        else none
      |none=>none
   |_=>none
def DD(z:List V):Nat->List V
 |0=>[]|n+1=>z++DD z n
def Eb(op:BinOp)(k:IntKind)(a b:Int):Option V:=
 match op with
 |.add=>some (.int k (k.wrap (a+b)))|.sub=>some (.int k (k.wrap (a-b)))|.mul=>some (.int k (k.wrap (a*b)))|.quo=>if b=0 then none else some (.int k (k.wrap (a.tdiv b)))|.rem=>if b=0 then none else some (.int k (a.tmod b))|.and=>some (.int k (k.wrap (BitVec.ofInt k.bits a &&& BitVec.ofInt k.bits b).toNat))|.or=>some (.int k (k.wrap (BitVec.ofInt k.bits a ||| BitVec.ofInt k.bits b).toNat))|.xor=>some (.int k (k.wrap (BitVec.ofInt k.bits a ^^^ BitVec.ofInt k.bits b).toNat))|.andNot=>some (.int k (k.wrap (BitVec.ofInt k.bits a &&& ~~~BitVec.ofInt k.bits b).toNat))|.eql=>some (.bool (a == b))|.neq=>some (.bool (a != b))|.lss=>some (.bool (decide (a<b)))|.leq=>some (.bool (decide (a<=b)))|.gtr=>some (.bool (decide (a > b)))|.geq=>some (.bool (decide (a>=b)))|_=>none
def NV(op:BinOp)(k:IntKind)(a b:Int):Option V:=
 if b<0 then none else
 match op with
 |.shl=>some (.int k (k.wrap (a*2^min b.toNat k.bits)))|.shr=>some (.int k (a.fdiv (2^min b.toNat k.bits)))|_=>none
def Qx:V->V->Option Bool
 |.int k a,.int k' b=>if k=k' then some (a == b)else none|_,_=>none
def Em:List V->List V->Option Bool
 |[],[]=>some true| a::x,b::y=>
   match Qx a b with
   |some true=>Em x y
   |some false=>some false
   |none=>none
 |_,_=>none
def Cy(op:BinOp)(x y:V):Option V:=
 match x,y with
 | .int k a,.int k' b=>
   match op with
   |.shl|.shr=>NV op k a b
   |_=>if k=k' then Eb op k a b else none
 | .str a,.str b=>
   match op with
   |.add=>if a.length+b.length<=9223372036854775807 then some (.str (a++b))else none
   |.eql=>some (.bool (a == b))
   |.neq=>some (.bool (!(a == b)))
   |_=>none
 |_,_=>none
def Je(op:UnOp)(x:V):Option V:=
 match op,x with
 |.not,.bool b=>some (.bool (!b))|.neg,.int k n=>some (.int k (k.wrap (0-n)))|_,_=>none
def DQ(s:List V):List V->List (Nat×Nat×T_)->Option (List V)
 |cs,[]=>some cs| cs,(off,size,x)::r=>
   let v:=(x.ev s).cells
   if v.length=size/\off+size<=cs.length/\v.all V.cell then DQ s (d_ cs off v) r else none
def CC(n:Option Nat)(cs:List V):Option V:=
 match n,cs with
 |some _,cs=>some (.agg cs)|none,[v]=>some v|none,_=>none
def Eo(d:Nat):Option V->Option Nat
 |none=>some d|some (.int _ i)=>if 0<=i then some i.toNat else none|some _=>none
def Qf:List V->Option (List UInt8)
 |[]=>some []|.int .u8 n::r=>(Qf r).map λs=>UInt8.ofNat n.toNat::s
 |_::_=>none
def Af(o:o_)(st:St):Option (V×List (List V)×Ab):=
 let s:=st.sl
 let g (v:V):Option (V×List (List V)×Ab):=some (v,st.bx,st.hp)
 match o with
 |.mv x=>g (x.ev s)| .z_ x=>match x.ev s with
   |.box i o=>g (.box i o)
   |.ptr l o=>g (.ptr l o)
   |_=>none
 | .pick c a b=>match c.ev s with
   |.bool t=>g (if t then a.ev s else b.ev s)
   |_=>none
 |.e_ i zs=>if i<st.bx.length/\zs.all V.cell then some (.box i 0,CU st.bx i zs,st.hp)else none| .boxB i n x=>
   let cs:=(x.ev s).cells
   if i<st.bx.length/\cs.length=n/\cs.all V.cell then some (.box i 0,CU st.bx i cs,st.hp)else none
 |.allocH zs=>if zs.all V.cell then some (.ptr st.hp.length 0,st.bx,st.hp++[⟨.own,1,zs⟩])else none| .boxH n x=>
   let cs:=(x.ev s).cells
   if cs.length=n/\cs.all V.cell then some (.ptr st.hp.length 0,st.bx,st.hp++[⟨.own,1,cs⟩])else none
 |.build zs ps=>if zs.all V.cell then (DQ s zs ps).bind λcs=>g (.agg cs)else none
 | .mkSlice w z len=>match len.ev s with
   | .int .i64 n=>
     if 0<=n/\z.length=w/\0<w/\z.all V.cell/\AD (n.toNat*w)then
      if n=0 then g .b_ else some (.slice st.hp.length 0 n.toNat,st.bx,st.hp++[⟨.own,w,DD z n.toNat⟩])
     else none
   |_=>none
 | .d5 w n zs ps=>
   if n=0 then g .b_
   else if zs.all V.cell/\zs.length=n*w/\0<w then
    (DQ s zs ps).bind λcs=>some (.slice st.hp.length 0 n,st.bx,st.hp++[⟨.own,w,cs⟩])
   else none
 | .d7 i n a=>match a.ev s with
   | .box j o=>
     if i=j/\o+n.getD 1<=(AZ st.bx i).length then (CC n (((AZ st.bx i).drop o).take (n.getD 1))).bind g else none
   |_=>none
 | .i5 n a=>match a.ev s with
   |.ptr l o=>(rd st.hp l o (n.getD 1)).bind λcs=>(CC n cs).bind g
   |_=>none
 | .loadX i c n a=>if TE (get (AZ st.bx i) c) (a.ev s)=true then (match a.ev s with
   |.ptr l o=>(rd st.hp l o (n.getD 1)).bind λcs=>(CC n cs).bind g
   |_=>none)else none
 | .V_ i n a x=>match a.ev s with
   | .box j o=>
     let cs:=(x.ev s).cells
     if i=j/\i<st.bx.length/\cs.length=n/\o+n<=(AZ st.bx i).length/\cs.all V.cell then some (.undef,CU st.bx i (d_ (AZ st.bx i) o cs),st.hp)else none
   |_=>none
 | .f8 n a x=>match a.ev s with
   | .ptr l o=>
     let cs:=(x.ev s).cells
     if cs.length=n/\cs.all V.cell then (wr st.hp l o cs).bind λh=>some (.undef,st.bx,h)else none
   |_=>none
 |.bin op x y=>(Cy op (x.ev s) (y.ev s)).bind g| .eqB neg x y=>match x.ev s,y.ev s with
   |.bool a,.bool b=>g (.bool (if neg then !(a == b)else a == b))
   |_,_=>none
 | .eqN neg x y=>match x.ev s,y with
   |.ifc a,.c (.ifc true)=>g (.bool (if neg then !a else a))
   |_,_=>none
 | .eqA n neg x y=>match x.ev s,y.ev s with
   |.agg a,.agg b=>if a.length=n/\b.length=n then (Em a b).bind λt=>g (.bool (if neg then !t else t))else none
   |_,_=>none
 |.un op x=>(Je op (x.ev s)).bind g| .conv k x=>match x.ev s with
   |.int _ n=>g (.int k (k.wrap n))
   |_=>none
 | .bstr x=>match x.ev s with
   |.b_=>g (.str [])
   |.slice l o n=>(rd st.hp l o n).bind λcs=>(Qf cs).bind λb=>g (.str b)
   |_=>none
 | .slice w x lo hi=>match x.ev s with
   |.b_=>(Eo 0 (lo.map (·.ev s))).bind λl=>(Eo 0 (hi.map (·.ev s))).bind λh=>if l=0/\h=0 then g .b_ else none
   |.slice b o n=>(Eo 0 (lo.map (·.ev s))).bind λl=>(Eo n (hi.map (·.ev s))).bind λh=>
    if l<=h/\h<=n/\ED st.hp b=some w then g (.slice b (o+l*w) (h-l))else none
   |_=>none
 | .substr x lo hi=>match x.ev s with
   |.str t=>(Eo 0 (lo.map (·.ev s))).bind λl=>(Eo t.length (hi.map (·.ev s))).bind λh=>
    if l<=h/\h<=t.length then g (.str ((t.drop l).take (h-l)))else none
   |_=>none
 | .f5 off a=>match a.ev s with
   |.box i o=>g (.box i (o+off))
   |.ptr l o=>g (.ptr l (o+off))
   |_=>none
 | .field off n x=>match x.ev s with
   |.agg cs=>if off+n.getD 1<=cs.length then (CC n ((cs.drop off).take (n.getD 1))).bind g else none
   |_=>none
 | .p_ w x i=>match x.ev s,i.ev s with
   |.slice l o n,.int _ j=>if 0<=j/\j<n then g (.ptr l (o+j.toNat*w))else none
   |_,_=>none
 | .index x i=>match x.ev s,i.ev s with
   |.str t,.int _ j=>if 0<=j then (match t[j.toNat]? with|some b=>g (.int .u8 b.toNat)|none=>none)else none
   |_,_=>none
 | .len x=>match x.ev s with
   |.b_=>g (.int .i64 0)
   |.slice _ _ n=>g (.int .i64 n)
   |_=>none
 | .lenT x=>match x.ev s with
   |.str t=>g (.int .i64 t.length)
   |_=>none
 |.app w x y=>if 0<w then (app st.hp w (x.ev s) (y.ev s)).bind λ(v,h)=>some (v,st.bx,h)else none
 | .appN w x y=>match x.ev s with
   |.b_=>if 0<w then (app st.hp w .b_ (y.ev s)).bind λ(v,h)=>some (v,st.bx,h)else none
   |_=>none
 | .minI x y=>match x.ev s,y.ev s with
   |.int .i64 a,.int .i64 b=>g (.int .i64 (if b<a then b else a))
   |_,_=>none
 | .maxI x y=>match x.ev s,y.ev s with
   |.int .i64 a,.int .i64 b=>g (.int .i64 (if b > a then b else a))
   |_,_=>none
 | .extract x i=>match x.ev s with
   | .f7 vs=>match vs[i]? with
     |some v=>g v
     |none=>none
   |_=>none
 |.callB ..=>none
theorem WM{i c:Nat}{n:Option Nat}{a:T_}{st:St}{r:V×List (List V)×Ab}(e:Af (.loadX i c n a) st=some r):TE (get (AZ st.bx i) c) (a.ev st.sl)=true/\Af (.i5 n a) st=some r:=by
 simp only[Af]at e;split at e
 ·rename_i h;exact⟨h,e⟩
 cases e
theorem l8{i c:Nat}{n:Option Nat}{a:T_}{st:St}(h:TE (get (AZ st.bx i) c) (a.ev st.sl)=true):Af (.loadX i c n a) st=Af (.i5 n a) st:=by
 simp only[Af,h,AS]
theorem W1{w:Nat}{x y:T_}{st:St}{r:V×List (List V)×Ab}(e:Af (.appN w x y) st=some r):x.ev st.sl= .b_:=by
 simp only[Af]at e;split at e
 ·assumption
 cases e
theorem bE{w:Nat}{x y:T_}{st:St}(h:x.ev st.sl= .b_):Af (.appN w x y) st=Af (.app w x y) st:=by
 simp only[Af,h]
def o_.clears(o:o_)(s:List V):List V:=
 match o with
 |.e_ i _|.boxB i _ _=>r_ i s|_=>s
def AK(o:o_)(d:Option Nat)(k:St->Prop)(st:St):Prop:=
 match o with
 |.callB kp f args=>(args.map (·.ev st.sl)).all V.ok1=true/\Qz st.bx kp f (args.map (·.ev st.sl)) st.hp λr h=>k (St.put { st with hp:=h } d r)
 | o=>match Af o st with
   |some (v,bx,hp)=>k (St.put { sl:=o.clears st.sl,bx,hp } d v)
   |none=>False
def Cr(o:a_)(k:St->Prop)(st:St):Prop:=
 match o.guard with
 |none=>AK o.op o.dst k st| some (g,want)=>match get st.sl g with
   |.bool b=>if b=want then AK o.op o.dst k st else k (st.put o.dst (.f7 []))
   |.f7 []=>k (st.put o.dst (.f7 []))
   |_=>False
def BI:List a_->(St->Prop)->St->Prop
 |[],k,st=>k st|o::r,k,st=>Cr o (BI r k) st
def a_.pairU(p q:a_):Bool:=match p.op,q.op with
 |.d5 _ _ _ [(_,_,.t _)],.appN _ (.c .b_) _=>true|_,_=>false
def Ou:List a_->Option (List a_)
 |p::q::r=>if p.pairU q then some (q::p::r)else (Ou (q::r)).map (p::·)|_=>none
abbrev Cs:=AExit->St->Prop
def F2(next:St->Prop)(k:Cs):Cs
 |.normal,st=>next st|e,st=>k e st
def IY(id:Nat)(k:Cs):Cs
 |.exit j,st=>if j=id then k .normal st else k (.exit j) st|e,st=>k e st
def OO(body:Cs->St->Prop)(live:List Nat)(k:Cs):Nat->St->Prop
 |0,_=>False|n+1,st=>body (F2 (OO body live k n) k) { st with sl:=keep live 0 st.sl }
def BT:ACode->Cs->St->Prop
 |.skip,k,st=>k .normal st|.region ops,k,st=>BI ops (k .normal) st|.regionU ops,k,st=>BI ops (k .normal) st/\∀g,Ou ops=some g->BI g (k .normal) st|.seq a b,k,st=>BT a (F2 (BT b k) k) st| .cond c a b,k,st=>match c.ev st.sl with
   |.bool t=>if t then BT a k st else BT b k st
   |_=>False
 |.block id a,k,st=>BT a (IY id k) st|.loop live a,k,st=>∃n,OO (BT a) live k n st|.exit id,k,st=>k (.exit id) st|.ret,k,st=>k .ret st
def Ha(st:St):ARes->Option V
 |.tmp t=>if (get st.sl t).ok1 then some (get st.sl t)else none| .cell t n=>match get st.sl t with
   |.box i o=>if o+n.getD 1<=(AZ st.bx i).length then CC n (((AZ st.bx i).drop o).take (n.getD 1))else none
   |.ptr l o=>(rd st.hp l o (n.getD 1)).bind λcs=>CC n cs
   |_=>none
def E5(st:St):List ARes->Option (List V)
 |[]=>some []| r::rs=>match Ha st r,E5 st rs with
   |some v,some vs=>some (v::vs)
   |_,_=>none
def Fc(st:St):List ARes->Option V
 |[r]=>Ha st r|rs=>(E5 st rs).map .f7
def Es:Nat->List V
 |0=>[]|n+1=>.undef::Es n
def He:Nat->List (List V)
 |0=>[]|n+1=>[]::He n
def Ys(f:AFun)(h0:Ab)(Q:V->Ab->Prop):Cs
 | .normal,st|.ret,st=>match Fc st f.res with
   |some v=>if f.pure then v.flat2=true/\st.hp.take h0.length=h0/\Q v h0 else Q v st.hp
   |none=>False
 |.exit _,_=>False
def EG(f:AFun):Bc:=λargs h Q=>
 args.length=f.nparams/\BT f.body (Ys f h Q) ⟨args++Es (f.nslots-f.nparams),He f.nbox,h⟩
structure Place where
 b:Nat
 o:Nat
 c:Nat
abbrev AF:=Nat->Place
inductive Rel (ι:AF) (σ:Ab) (β:Nat->Nat):V->Value->Prop
 |undef (x:Value):Rel ι σ β .undef x|bool (b:Bool):Rel ι σ β (.bool b) (.bool b)|int (k:IntKind) (n:Int):Rel ι σ β (.int k n) (.int k n)|str (s:List UInt8):Rel ι σ β (.str s) (.string ⟨s.toArray⟩)|b_ (a:Option Addr):Rel ι σ β .b_ (.slice a 0 0)|slice (l o n c:Nat) (X_:Blk) (h:σ[l]?=some X_) (hn:n<=c) (hc:o+c*X_.w<=(ι l).c) (hw:0<X_.w):Rel ι σ β (.slice l o n) (.slice (some ⟨(ι l).b,(ι l).o+o,none⟩) n c)|sliceEnd (l o:Nat) (X_:Blk) (h:σ[l]?=some X_) (a:Option Addr) (hw:0<X_.w):Rel ι σ β (.slice l o 0) (.slice a 0 0)|box (i o:Nat):Rel ι σ β (.box i o) (.pointer (some ⟨β i,o,none⟩))|ptr (l o:Nat) (X_:Blk) (h:σ[l]?=some X_) (hw:0<X_.w):Rel ι σ β (.ptr l o) (.pointer (some ⟨(ι l).b,(ι l).o+o,none⟩))|nilIfc:Rel ι σ β (.ifc true) .nilIface|ifc (t:TypeId) (v:Value):Rel ι σ β (.ifc false) (.iface t v)|agg (cs:List V) (ws:List Value) (hl:cs.length=ws.length) (hk:∀v,v∈cs->v.cell=true) (h:∀(i:Nat) v w,cs[i]?=some v->ws[i]?=some w->Rel ι σ β v w):Rel ι σ β (.agg cs) (.agg ws.toArray)|f7 (cs:List V) (ws:List Value) (hl:cs.length=ws.length) (hk:∀v,v∈cs->v.ok1=true) (h:∀(i:Nat) v w,cs[i]?=some v->ws[i]?=some w->Rel ι σ β v w):Rel ι σ β (.f7 cs) (.tuple ws.toArray)
structure Keeps (ι:AF) (σ:Ab) (ι':AF) (σ':Ab):Prop where
 place:∀(l:Nat) (X_:Blk),σ[l]?=some X_->ι' l=ι l
 width:∀(l:Nat) (X_:Blk),σ[l]?=some X_->∃v_:Blk,σ'[l]?=some v_/\v_.w=X_.w
theorem Keeps.refl(ι:AF)(σ:Ab):Keeps ι σ ι σ:=⟨λ_ _ _=>rfl,λ_ X_ h=>⟨X_,h,rfl⟩⟩
theorem Keeps.trans{ι ι' ι'':AF}{σ σ' σ'':Ab}(a:Keeps ι σ ι' σ')(b:Keeps ι' σ' ι'' σ''):Keeps ι σ ι'' σ'':=by
 refine⟨λl X_ h=>?_,λl X_ h=>?_⟩
 ·obtain⟨g,h1,_⟩:=a.width l X_ h;rw[b.place l g h1,a.place l X_ h]
 obtain⟨g,h1,n⟩:=a.width l X_ h;obtain⟨q,i,j⟩:=b.width l g h1;exact⟨q,i,j.trans n⟩
theorem Rel.mono{ι ι':AF}{σ σ':Ab}{β β':Nat->Nat}{v:V}{x:Value}(k:Keeps ι σ ι' σ')(z:∀i o,v= .box i o->β' i=β i)(h:Rel ι σ β v x):Rel ι' σ' β' v x:=by
 induction h with
 |undef x=>exact .undef x
 |bool b=>exact .bool b
 |int k n=>exact .int k n
 |str s=>exact .str s
 |b_ a=>exact .b_ a
 | slice l o n c X_ h hn hc g=>
   obtain⟨y,h1,q⟩:=k.width l X_ h;have:=Rel.slice (ι:=ι') (σ:=σ') (β:=β') l o n c y h1 hn (by rw[k.place l X_ h,q];exact hc) (by rw[q];exact g);rwa [k.place l X_ h]at this
 | sliceEnd l o X_ h a g=>
   obtain⟨y,h1,q⟩:=k.width l X_ h;exact .sliceEnd l o y h1 a (by rw[q];exact g)
 |box i o=>rw[<- z i o rfl];exact .box i o
 | ptr l o X_ h g=>
   obtain⟨y,h1,q⟩:=k.width l X_ h;have:=Rel.ptr (ι:=ι') (σ:=σ') (β:=β') l o y h1 (by rw[q];exact g);rwa [k.place l X_ h]at this
 |nilIfc=>exact .nilIfc
 |ifc t v=>exact .ifc t v
 | agg cs ws hl hk h ih=>
   refine .agg cs ws hl hk λi v w u g=>ih i v w u g ?_;intro j o e;have:=hk v (HL u);subst e;simp[V.cell]at this
 | f7 cs ws hl hk h ih=>
   refine .f7 cs ws hl hk λi v w u g=>ih i v w u g ?_;intro j o e;have:=hk v (HL u);subst e;simp[V.ok1,V.cell]at this
theorem Rel.cellMono{ι ι':AF}{σ σ':Ab}{β β':Nat->Nat}{v:V}{x:Value}(k:Keeps ι σ ι' σ')(b:v.cell=true)(h:Rel ι σ β v x):Rel ι' σ' β' v x:=h.mono k λi o e=>by subst e;simp[V.cell]at b
structure HRel (ι:AF) (σ:Ab) (w:World):Prop where
 cells:∀(l:Nat) (X_:Blk),σ[l]?=some X_->X_.k≠.dead->∀(i:Nat) v,X_.cs[i]?=some v->v.cell=true/\∃x,w.cell? ⟨(ι l).b,(ι l).o+i,none⟩=some x/\∀β,Rel ι σ β v x
 own:∀(l:Nat) (X_:Blk),σ[l]?=some X_->X_.k= .own->(ι l).o=0/\X_.cs.length<=(ι l).c/\∃arr e,w.heap[(ι l).b]?=some (.cells arr e (0,0))/\arr.size=(ι l).c
 apart:∀(l l':Nat) (X_ v_:Blk),l≠l'->σ[l]?=some X_->σ[l']?=some v_->X_.k= .own->v_.k≠.dead->(ι l).b≠(ι l').b
 there:∀(l:Nat) (X_:Blk),σ[l]?=some X_->X_.k≠.dead->(ι l).b<w.heap.size
structure Step (ι:AF) (σ:Ab) (w:World) (ι':AF) (σ':Ab) (w':World):Prop where
 keeps:Keeps ι σ ι' σ'
 kinds:∀(l:Nat) (X_ v_:Blk),σ[l]?=some X_->σ'[l]?=some v_->v_.k=X_.k\/(X_.k= .own/\v_.k= .dead)
 fresh:∀(l:Nat) (v_:Blk),σ.length<=l->σ'[l]?=some v_->v_.k≠.dead->v_.k= .own/\(w.heap.size<=(ι' l).b\/∃(l0:Nat) (blk0:Blk),σ[l0]?=some blk0/\blk0.k= .own/\(ι l0).b=(ι' l).b)
 frame:∀b,b<w.heap.size->(∀(l:Nat) (X_:Blk),σ[l]?=some X_->X_.k= .own->(ι l).b≠b)->w'.heap[b]?=w.heap[b]?
 size:w.heap.size<=w'.heap.size
 os:w'.os=w.os
 output:w'.output=w.output
 tape:w'.tape=w.tape
theorem Step.refl(ι:AF)(σ:Ab)(w:World):Step ι σ w ι σ w where
 keeps:=.refl ι σ
 kinds l X_ v_ h h':=.inl (by rw[h]at h';cases h';rfl)
 fresh l v_ hl h:=by rw[BO hl]at h;cases h
 frame _ _ _:=rfl
 size:=BH _
 os:=rfl
 output:=rfl
 tape:=rfl
theorem Bw{σ:Ab}{l:Nat}{X_:Blk}(h:σ[l]?=some X_):l<σ.length:=by
 rcases Bx l σ.length with h1|h1
 ·exact h1
 rw[BO h1]at h;cases h
theorem PY{σ:Ab}{l:Nat}(h:l<σ.length):∃X_,σ[l]?=some X_:=⟨_,A9 h⟩
theorem Step.trans{ι ι' ι'':AF}{σ σ' σ'':Ab}{w w' t:World}(a:Step ι σ w ι' σ' w')(b:Step ι' σ' w' ι'' σ'' t):Step ι σ w ι'' σ'' t where
 keeps:=a.keeps.trans b.keeps
 kinds l X_ blk'' h h'':=by
  obtain⟨j,h',_⟩:=a.keeps.width l X_ h;rcases a.kinds l X_ j h h' with e|⟨x,q⟩
  ·rcases b.kinds l j blk'' h' h'' with f|⟨u,n⟩
   ·exact .inl (f.trans e)
   exact .inr ⟨e▸u,n⟩
  rcases b.kinds l j blk'' h' h'' with f|⟨u,n⟩
  ·exact .inr ⟨x,f.trans q⟩
  rw[q]at u;cases u
 fresh l blk'' I h'' hd:=by
  by_cases G:l<σ'.length
  ·obtain⟨j,h'⟩:=PY G;rcases b.kinds l j blk'' h' h'' with f|⟨u,n⟩
   ·obtain⟨x,q⟩:=a.fresh l j I h' (f▸hd);rw[b.keeps.place l j h'];exact⟨f.trans x,q⟩
   exact absurd n hd
  obtain⟨x,q⟩:=b.fresh l blk'' (by omega) h'' hd;refine⟨x,?_⟩;rcases q with q|⟨l0,s,h0,y,p0⟩
  ·exact .inl (CV a.size q)
  by_cases F:l0<σ.length
  ·obtain⟨i,h1⟩:=PY F;rcases a.kinds l0 i s h1 h0 with f|⟨_,n⟩
   ·exact .inr ⟨l0,i,h1,f▸y,by rw[<- p0,a.keeps.place l0 i h1]⟩
   rw[n]at y;cases y
  obtain⟨_,g⟩:=a.fresh l0 s (by omega) h0 (by rw[y];decide);rcases g with g|⟨C,i,h1,D,A⟩
  ·exact .inl (p0▸g)
  exact .inr ⟨C,i,h1,D,A.trans p0⟩
 frame c hc hn:=by
  rw[b.frame c (HJ hc a.size) ?_,a.frame c hc hn];intro l j h' z e;by_cases I:l<σ.length
  ·obtain⟨X_,h⟩:=PY I;rcases a.kinds l X_ j h h' with f|⟨_,n⟩
   ·exact hn l X_ h (f▸z) (by rw[<- a.keeps.place l X_ h];exact e)
   rw[n]at z;cases z
  obtain⟨_,g⟩:=a.fresh l j (by omega) h' (by rw[z];decide);rcases g with g|⟨C,i,h1,D,A⟩
  ·omega
  exact hn C i h1 D (A.trans e)
 size:=CV a.size b.size
 os:=b.os.trans a.os
 output:=b.output.trans a.output
 tape:=b.tape.trans a.tape
theorem Step.drew(ι:AF)(σ:Ab)(w:World):Step ι σ w ι σ w.drew:={ Step.refl ι σ w with }
theorem HRel.drew{ι:AF}{σ:Ab}{w:World}(h:HRel ι σ w):HRel ι σ w.drew:=⟨h.cells,h.own,h.apart,h.there⟩
abbrev Phm:=Nat->Option Blk
def Nf:Blk:=⟨.dead,0,[]⟩
def kill(Φ:Phm)(h:Ab):Ab:=h.mapIdx λl b=>if (Φ l).isSome then Nf else b
def Has(Φ:Phm)(h:Ab):Prop:=∀l b,Φ l=some b->h[l]?=some b
def Phm.no:Phm:=λ_=>none
theorem Gh(Φ:Phm)(h:Ab)(l:Nat):(kill Φ h)[l]?=(h[l]?).map λb=>if (Φ l).isSome then Nf else b:=by
 simp[kill,dt]
theorem El(Φ:Phm)(h:Ab):(kill Φ h).length=h.length:=by simp[kill]
theorem Qn{Φ:Phm}{h:Ab}{l:Nat}(e:Φ l=none):(kill Φ h)[l]?=h[l]?:=by
 rw[Gh,e];simp
theorem SA(h:Ab):kill Phm.no h=h:=by
 apply IU;intro l;exact Qn rfl
theorem Has.no(h:Ab):Has Phm.no h:=λ_ _ e=>by cases e
theorem Has.lt{Φ:Phm}{h:Ab}(H:Has Φ h){l:Nat}{b:Blk}(e:Φ l=some b):l<h.length:=by
 have:=H l b e;rcases Bx l h.length with h1|h1
 ·exact h1
 rw[BO h1]at this;cases this
theorem Has.top{Φ:Phm}{h:Ab}(H:Has Φ h):Φ h.length=none:=by
 cases e:Φ h.length with
 |none=>rfl
 |some b=>have:=H.lt e;omega
theorem NG{Φ:Phm}{h:Ab}(H:Has Φ h)(b:Blk):kill Φ (h++[b])=kill Φ h++[b]:=by
 apply IU;intro l;rw[Gh];rcases Nat.lt_trichotomy l h.length with g|g|g
 ·rw[Bi g,Bi (by rw[El];exact g),Gh]
 ·subst g;rw[Da (BH _),Da (by rw[El];exact BH _),H.top];simp[El]
 rw[BO (by simp;omega),BO (by simp[El];omega)];rfl
theorem WQ{Φ:Phm}{h:Ab}{l:Nat}(e:Φ l=none)(b:Blk):kill Φ (h.set l b)=(kill Φ h).set l b:=by
 apply IU;intro j;rw[Gh,G3,G3];by_cases g:l=j
 ·subst g;simp only[AS,El,e];by_cases i:l<h.length<;>simp[i]
 simp only[Ae g,Gh]
theorem ZdV(Φ:Phm)(h:Ab)(n:Nat):kill Φ (h.take n)=(kill Φ h).take n:=by
 apply IU;intro j;rw[Gh,IX,IX];by_cases b:j<n
 ·simp only[Ac b,Gh]
 simp only[Ae b];rfl
theorem Has.push{Φ:Phm}{h:Ab}(H:Has Φ h)(e:Ab):Has Φ (h++e):=λl b g=>by
 rw[Bi (H.lt g)];exact H l b g
theorem Has.set{Φ:Phm}{h:Ab}(H:Has Φ h){l:Nat}(e:Φ l=none)(b:Blk):Has Φ (h.set l b):=λj c g=>by
 rw[G3];split
 ·rename_i i;subst i;rw[e]at g;cases g
 exact H j c g
def qe(Φ:Phm)(ι:AF)(σ:Ab)(w:World)(Q:V->Ab->Prop)(e:Ending)(w':World):Prop:=∃x r σ' ι',e= .returned x/\Q r σ'/\Has Φ σ'/\(∀β,Rel ι' (kill Φ σ') β r x)/\HRel ι' (kill Φ σ') w'/\Step ι (kill Φ σ) w ι' (kill Φ σ') w'
def mQ(ι:AF)(σ:Ab)(args:List V)(b:List Value):Prop:=args.length=b.length/\∀(i:Nat) v x,args[i]?=some v->b[i]?=some x->∀β,Rel ι σ β v x
def W8:List String:=["strconv.ErrSyntax","internal/bytealg.MaxLen","internal/strconv.uint64pow10"]
def Zi4(b:String)(cs:Array Value):Prop:=
 if b= "strconv.ErrSyntax" then ∃t p,cs=#[.iface t p]else if b= "internal/bytealg.MaxLen" then ∃m,cs[0]?=some (.int .i64 m)
 else cs=((List.range 20).map λi=>Value.int .u64 ((10^i:Nat):Int)).toArray
def GlW(P:Program)(w:World):Prop:=∀b∈W8,∀g,P.globalNamed b=some g->∃cs,w.var? P b=some cs/\Zi4 b cs
def Gl(P:Program)(ι:AF)(σ:Ab)(w:World):Prop:=GlW P w/\∀i∈W8,∀g,P.globalNamed i=some g->∀(l:Nat) (X_:Blk),σ[l]?=some X_->X_.k= .own->(ι l).b≠g
theorem ZeW{P:Program}{w:World}{i:String}{g:Nat}{cs:Array Value}(j:P.globalNamed i=some g)(h:w.var? P i=some cs):g<w.heap.size:=by
 simp only[World.var?,j,II]at h;rcases Bx g w.heap.size with n|b
 ·exact n
 rw[Array.getElem?_eq_none b]at h;cases h
theorem Gl.step{P:Program}{ι ι':AF}{σ σ':Ab}{w w':World}(h:Gl P ι σ w)(s:Step ι σ w ι' σ' w'):Gl P ι' σ' w':=by
 have x:∀i∈W8,∀g,P.globalNamed i=some g->g<w.heap.size:=λi n g j=>by
  obtain⟨cs,t,_⟩:=h.1 i n g j;exact ZeW j t
 refine⟨λi n g j=>?_,λi n g j l X_ u q=>?_⟩
 ·obtain⟨cs,t,z⟩:=h.1 i n g j;refine⟨cs,?_,z⟩;rw[<- t];simp only[World.var?,j,II];rw[s.frame g (x i n g j) (h.2 i n g j)]
 by_cases A:l<σ.length
 ·obtain⟨b,h0⟩:=PY A;rw[s.keeps.place l b h0];rcases s.kinds l b X_ h0 u with e|⟨_,e⟩
  ·exact h.2 i n g j l b h0 (e▸q)
  rw[e]at q;cases q
 obtain⟨_,e⟩:=s.fresh l X_ (by omega) u (by rw[q];decide);have:=x i n g j;rcases e with e|⟨l0,b,h0,y,p0⟩
 ·omega
 rw[<- p0];exact h.2 i n g j l0 b h0 y
class GlC (P:Program) (ι:AF) (σ:Ab) (w:World):Prop where
 gl:Gl P ι σ w
theorem GlW.none{P:Program}(h:(W8.all λb=>(P.globalNamed b).isNone)=true)(w:World):GlW P w:=λb i g j=>by
 have:=Dw.1 h b i;rw[j]at this;cases this
def Ay(P:Program)(f:FuncId)(b:Bc):Prop:=
 ∀(Φ:Phm) (ι:AF) (σ:Ab) (w:World) (args:List V) (g:List Value) (Q:V->Ab->Prop),Has Φ σ->HRel ι (kill Φ σ) w->mQ ι (kill Φ σ) args g->b args σ Q->Gl P ι (kill Φ σ) w ->
   Calls P f g.toArray w (qe Φ ι σ w Q)
structure BRel (ι:AF) (σ:Ab) (β:Nat->Nat) (bx:List (List V)) (w0 w:World):Prop where
 cells:∀(i:Nat) cs,bx[i]?=some cs->cs≠[]->∃arr e,w.heap[β i]?=some (.cells arr e (0,0))/\arr.size=cs.length/\∀(j:Nat) v,cs[j]?=some v->v.cell=true/\∃x,arr[j]?=some x/\∀β',Rel ι σ β' v x
 new:∀(i:Nat) cs,bx[i]?=some cs->cs≠[]->w0.heap.size<=β i/\β i<w.heap.size
 apart:∀(i j:Nat) cs cs',i≠j->bx[i]?=some cs->bx[j]?=some cs'->cs≠[]->cs'≠[]->β i≠β j
 heap:∀(i:Nat) cs (l:Nat) (X_:Blk),bx[i]?=some cs->cs≠[]->σ[l]?=some X_->X_.k≠.dead->(ι l).b≠β i
def SRel(ι:AF)(σ:Ab)(β:Nat->Nat)(sl:List V)(tmps:Array Value):Prop:=sl.length<=tmps.size/\∀i,Rel ι σ β (get sl i) (tmps.getD i Go.undef)
def CZ(ι0:AF)(σ0:Ab)(w0:World)(Φ:Phm)(st:St)(a:Act)(w:World):Prop:=a.defers=[]/\Has Φ st.hp/\∃ι β,HRel ι (kill Φ st.hp) w/\BRel ι (kill Φ st.hp) β st.bx w0 w/\SRel ι (kill Φ st.hp) β st.sl a.tmps/\Step ι0 σ0 w0 ι (kill Φ st.hp) w
theorem Zbg(s:List V)(n:Nat)(v:V)(h:n<s.length):get (put s n v) n=v:=by
 induction s generalizing n with
 |nil=>simp at h
 | cons x r ih=>cases n with
   |zero=>rfl
   |succ n=>exact ih n (by simpa using h)
theorem iC(s:List V)(n m:Nat)(v:V)(h:m≠n):get (put s n v) m=get s m:=by
 induction s generalizing n m with
 |nil=>rfl
 | cons x r ih=>cases n with
   | zero=>cases m with
     |zero=>exact absurd rfl h
     |succ m=>rfl
   | succ n=>cases m with
     |zero=>rfl
     |succ m=>exact ih n m (by omega)
theorem Zia(s:List V)(n:Nat)(h:s.length<=n):get s n= .undef:=by
 induction s generalizing n with
 |nil=>rfl
 | cons x r ih=>cases n with
   |zero=>simp at h
   |succ n=>exact ih n (by simpa using h)
@[simp] theorem ZjS (s:List V) (n:Nat) (v:V):(put s n v).length=s.length:=by
 induction s generalizing n with
 |nil=>rfl
 | cons x r ih=>cases n with
   |zero=>rfl
   |succ n=>simp[put,ih]
theorem SI(s:List (List V))(n:Nat):AZ s n=s[n]?.getD []:=by
 induction s generalizing n with
 |nil=>rfl
 | cons x r ih=>cases n with
   |zero=>rfl
   |succ n=>simp[AZ,ih]
@[simp] theorem ZjQ (s:List (List V)) (n:Nat) (v:List V):(CU s n v).length=s.length:=by
 induction s generalizing n with
 |nil=>rfl
 | cons x r ih=>cases n with
   |zero=>rfl
   |succ n=>simp[CU,ih]
theorem W3(s:List (List V))(n m:Nat)(v:List V):(CU s n v)[m]?=if m=n/\n<s.length then some v else s[m]?:=by
 induction s generalizing n m with
 |nil=>simp[CU]
 | cons x r ih=>cases n with
   |zero=>cases m<;>simp[CU]
   | succ n=>cases m with
     |zero=>simp[CU]
     |succ m=>simp[CU,ih]
@[simp] theorem ZjN (i:Nat) (s:List V):(r_ i s).length=s.length:=by
 induction s with
 |nil=>rfl
 |cons x r b=>simp[r_,b]
theorem iP(i:Nat)(s:List V)(n:Nat):get (r_ i s) n=if (get s n).isBox i then .undef else get s n:=by
 induction s generalizing n with
 |nil=>simp[r_,get,V.isBox]
 | cons x r ih=>cases n with
   |zero=>rfl
   |succ n=>exact ih n
@[simp] theorem ZjP (live:List Nat) (k:Nat) (s:List V):(keep live k s).length=s.length:=by
 induction s generalizing k with
 |nil=>rfl
 |cons x r b=>simp[keep,b]
theorem Zfl(live:List Nat)(k:Nat)(s:List V)(n:Nat):get (keep live k s) n= .undef\/get (keep live k s) n=get s n:=by
 induction s generalizing k n with
 |nil=>exact .inl rfl
 | cons x r ih=>cases n with
   |zero=>simp only[keep,get];split<;>simp
   |succ n=>exact ih (k+1) n
theorem GP:∀(cs:List V) (o:Nat) (b:List V),(d_ cs o b).length=cs.length
 |cs,0,[]=>by cases cs<;>rfl
 |[],0,_::_=>rfl
 |_::r,0,v::b=>by simp[d_,GP r 0 b]
 |[],_+1,_=>rfl
 |c::r,n+1,b=>by simp[d_,GP r n b]
theorem Wi:∀(cs:List V) (o:Nat) (b:List V) (j:Nat),o+b.length<=cs.length->(d_ cs o b)[j]?=if o<=j/\j<o+b.length then b[j-o]? else cs[j]?
 |cs,0,[],j,_=>by cases cs<;>simp[d_]
 |[],0,_::_,j,h=>by simp at h
 | _ :: r,0,v::b,j,h=>by
   cases j with
   |zero=>simp[d_]
   | succ j=>
     have:=Wi r 0 b j (by simp at h ⊢;omega);simp[d_,this]
 |[],n+1,b,j,h=>by simp at h
 | c :: r,n+1,b,j,h=>by
   cases j with
   |zero=>simp[d_]
   | succ j=>
     have:=Wi r n b j (by simp at h ⊢;omega);simp only[d_,SS,this];by_cases g:n<=j/\j<n+b.length
     ·rw[Ac g,Ac (by omega)];congr 1;omega
     rw[Ae g,Ae (by omega)]
theorem ZhF{h:Ab}{l o n:Nat}{cs:List V}(e:rd h l o n=some cs):∃b,h[l]?=some b/\b.k≠.dead/\o+n<=b.cs.length/\cs=(b.cs.drop o).take n:=by
 unfold rd at e;cases i:h[l]? with
 |none=>simp[i]at e
 | some b=>
   simp only[i]at e;split at e
   ·rename_i g;exact⟨b,rfl,g.1,g.2,(C9 e).symm⟩
   cases e
theorem RF{α:Type}{cs:List α}{o n:Nat}(h:o+n<=cs.length):((cs.drop o).take n).length=n:=by
 simp;omega
theorem Fi{α:Type}{cs:List α}{o n j:Nat}{v:α}(e:((cs.drop o).take n)[j]?=some v):j<n/\cs[o+j]?=some v:=by
 rw[IX]at e;split at e
 ·rename_i b;exact⟨b,by simpa using e⟩
 cases e
section
variable {ι:AF} {σ:Ab} {β:Nat->Nat}
theorem Rel.cells{v:V}{x:Value}(h:Rel ι σ β v x)(F:v.cells.all V.cell=true):x.cells.size=v.cells.length/\∀(i:Nat) u,v.cells[i]?=some u->u.cell=true/\∃y,x.cells[i]?=some y/\∀β',Rel ι σ β' u y:=by
 have g:∀ {v:V} {x:Value},Rel ι σ β v x->v.cell=true->v.cells=[v]->x.cells=#[x] ->
  x.cells.size=v.cells.length/\∀(i:Nat) u,v.cells[i]?=some u->u.cell=true/\∃y,x.cells[i]?=some y/\∀β',Rel ι σ β' u y:=by
  intro v x h z J I;rw[J,I];refine⟨rfl,λi u C=>?_⟩;cases i with
  |zero=>simp at C;subst C;exact⟨z,x,rfl,λβ'=>h.cellMono (.refl _ _) z⟩
  |succ i=>simp at C
 cases h with
 |undef x=>simp[V.cells,V.cell]at F
 |bool b=>exact g (.bool b) rfl rfl rfl
 |int k n=>exact g (.int k n) rfl rfl rfl
 |str s=>exact g (.str s) rfl rfl rfl
 |b_ a=>exact g (.b_ a) rfl rfl rfl
 |slice l o n c X_ h G z j=>exact g (.slice l o n c X_ h G z j) rfl rfl rfl
 |sliceEnd l o X_ h a j=>exact g (.sliceEnd l o X_ h a j) rfl rfl rfl
 |box i o=>simp[V.cells,V.cell]at F
 |ptr l o X_ h j=>exact g (.ptr l o X_ h j) rfl rfl rfl
 |nilIfc=>exact g .nilIfc rfl rfl rfl
 |ifc t v=>exact g (.ifc t v) rfl rfl rfl
 | agg cs ws D z h=>
   refine⟨by simp[V.cells,Value.cells,D],λi u C=>?_⟩;have q:cs[i]?=some u:=C;have hi:i<ws.length:=(by rw[<- D];exact(List.getElem?_eq_some_iff.1 q).1);have j:ws[i]?=some ws[i]:=A9 hi;have A:=z u (HL q);exact⟨A,ws[i],by simp[Value.cells],λβ'=>(h i u _ q j).cellMono (.refl _ _) A⟩
 |f7 cs ws D z h=>simp[V.cells,V.cell]at F
theorem E0{k:IntKind}{n:Int}{x:Value}(h:Rel ι σ β (.int k n) x):x= .int k n:=by cases h;rfl
theorem P2{b:Bool}{x:Value}(h:Rel ι σ β (.bool b) x):x= .bool b:=by cases h;rfl
theorem Qd{s:List UInt8}{x:Value}(h:Rel ι σ β (.str s) x):x= .string ⟨s.toArray⟩:=by cases h;rfl
theorem P1{x:Value}(h:Rel ι σ β .b_ x):∃a,x= .slice a 0 0:=by cases h;exact⟨_,rfl⟩
theorem SF{i o:Nat}{x:Value}(h:Rel ι σ β (.box i o) x):x= .pointer (some ⟨β i,o,none⟩):=by cases h;rfl
theorem IK{l o:Nat}{x:Value}(h:Rel ι σ β (.ptr l o) x):(∃X_,σ[l]?=some X_)/\x= .pointer (some ⟨(ι l).b,(ι l).o+o,none⟩):=by cases h;exact⟨⟨_,‹_›⟩,rfl⟩
theorem Ge{l o n:Nat}{x:Value}(h:Rel ι σ β (.slice l o n) x):∃X_,σ[l]?=some X_ /\
 ((∃c,x= .slice (some ⟨(ι l).b,(ι l).o+o,none⟩) n c/\n<=c/\o+c*X_.w<=(ι l).c)\/(n=0/\∃a,x= .slice a 0 0)):=by
 cases h with
 |slice l o n c X_ h i j g=>exact⟨X_,h,.inl ⟨c,rfl,i,j⟩⟩
 |sliceEnd l o X_ h a g=>exact⟨X_,h,.inr ⟨rfl,a,rfl⟩⟩
theorem Mk{l o n:Nat}{x:Value}(h:Rel ι σ β (.slice l o n) x){X_:Blk}(i:σ[l]?=some X_):0<X_.w:=by
 cases h with
 |slice l o n c b h j q g=>rw[i]at h;cases h;exact g
 |sliceEnd l o b h a g=>rw[i]at h;cases h;exact g
theorem Wx{l o:Nat}{x:Value}(h:Rel ι σ β (.ptr l o) x){X_:Blk}(i:σ[l]?=some X_):0<X_.w:=by
 cases h with
 |ptr l o b h g=>rw[i]at h;cases h;exact g
theorem cz{cs:List V}{x:Value}(h:Rel ι σ β (.agg cs) x):∃ws:List Value,x= .agg ws.toArray/\cs.length=ws.length/\(∀v,v∈cs->v.cell=true)/\∀(i:Nat) v w,cs[i]?=some v->ws[i]?=some w->Rel ι σ β v w:=by
 cases h;exact⟨_,rfl,‹_›,‹_›,‹_›⟩
theorem nJ{cs:List V}{x:Value}(h:Rel ι σ β (.f7 cs) x):∃ws:List Value,x= .tuple ws.toArray/\cs.length=ws.length/\(∀v,v∈cs->v.ok1=true)/\∀(i:Nat) v w,cs[i]?=some v->ws[i]?=some w->Rel ι σ β v w:=by
 cases h;exact⟨_,rfl,‹_›,‹_›,‹_›⟩
theorem WD {n:Option Nat} {cs:List V} {v:V} {ws:List Value} (e:CC n cs=some v) (b:cs.length=ws.length) (g:∀v,v∈cs->v.cell=true)
 (h:∀(i:Nat) v w,cs[i]?=some v->ws[i]?=some w->Rel ι σ β v w):(n.isSome=true/\Rel ι σ β v (.agg ws.toArray))\/(n=none/\∃x,ws=[x]/\Rel ι σ β v x):=by
 cases n with
 |some m=>simp[CC]at e;subst e;exact .inl ⟨rfl,.agg cs ws b g h⟩
 | none=>
   match cs,ws,b with
   |[c],[x],_=>simp[CC]at e;subst e;exact .inr ⟨rfl,x,rfl,h 0 c x rfl rfl⟩
   |[],[],_=>simp[CC]at e
   |_::_::_,_,_=>simp[CC]at e
end
def MB:Value->V->Bool
 |.bool a,.bool b=>a == b|.int k a,.int k' b=>k == k'&&a == b|.string s,.str t=>s.data.toList == t|.slice none 0 0,.b_=>true|.nilIface,.ifc true=>true|_,_=>false
def AE:Operand->T_->Bool
 |.tmp a,.t b=>a == b|.const _,.c .undef=>true|.const v,.c u=>MB v u|_,_=>false
def OK:List Operand->List T_->Bool
 |[],[]=>true|x::r,y::s=>AE x y&&OK r s|_,_=>false
def Gi:List Value->List V->Bool
 |[],[]=>true|x::r,y::s=>MB x y&&Gi r s|_,_=>false
theorem ZN{x:Value}{v:V}(h:MB x v=true)(ι:AF)(σ:Ab)(β:Nat->Nat):Rel ι σ β v x:=by
 unfold MB at h;split at h
 ·simp at h;subst h;exact .bool _
 ·simp at h;obtain⟨rfl,rfl⟩:=h;exact .int _ _
 ·rename_i s t;simp at h;subst h;exact .str _
 ·exact .b_ _
 ·exact .nilIfc
 cases h
theorem iN{x:Value}{v:V}(h:MB x v=true):v.cell=true:=by
 unfold MB at h;split at h<;>first|rfl|cases h
theorem BG{x:Operand}{y:T_}(h:AE x y=true){ι:AF}{σ:Ab}{β:Nat->Nat}{sl:List V}{a:Act}(hs:SRel ι σ β sl a.tmps):Rel ι σ β (y.ev sl) (a.eval x):=by
 unfold AE at h;split at h
 ·simp at h;subst h;exact hs.2 _
 ·exact .undef _
 ·exact ZN h _ _ _
 cases h
theorem RQ{g:List Value}{b:List V}(h:Gi g b=true):b.length=g.length:=by
 induction g generalizing b with
 | nil=>cases b with
   |nil=>rfl
   |cons=>simp[Gi]at h
 | cons x r ih=>cases b with
   |nil=>simp[Gi]at h
   |cons y s=>simp[Gi]at h;simp[ih h.2]
theorem jm{j:List Value}{b:List V}(h:Gi j b=true)(i:Nat)(v:V)(g:b[i]?=some v):∃x,j[i]?=some x/\MB x v=true:=by
 induction j generalizing b i with
 | nil=>cases b with
   |nil=>simp at g
   |cons=>simp[Gi]at h
 | cons x r ih=>cases b with
   |nil=>simp at g
   | cons y s=>
     simp[Gi]at h;cases i with
     |zero=>simp at g;subst g;exact⟨x,rfl,h.1⟩
     |succ i=>simpa using ih h.2 i g
section
variable {P:Program} {w:World}
theorem C8{t:TypeId}{d:TypeDesc}(h:P.underlying t=some d):(underlying t).run P w= .ok d w:=by simp[underlying,h]
theorem dE{t:TypeId}{i:TypeInfo}(h:P.info? t=some i):(typeInfo t).run P w= .ok i w:=by simp[typeInfo,h]
theorem FV{t:TypeId}{i:TypeInfo}(h:P.info? t=some i):(sizeOf t).run P w= .ok i.size w:=by simp[sizeOf,dE h]
theorem S8{t:TypeId}{i:TypeInfo}{z:Value}(h:P.info? t=some i)(b:i.zero=some z):(zeroValue t).run P w= .ok z w:=by simp[zeroValue,dE h,b]
def XU:TypeDesc->Bool
 |.struct _|.array _ _=>true|_=>false
theorem MG{t:TypeId}{d:TypeDesc}(h:P.underlying t=some d):(isAgg t).run P w= .ok (XU d) w:=by
 simp only[isAgg,D1,C8 h,Dm];cases d<;>rfl
end
def HN(P:Program)(t:TypeId)(n:Option Nat):Bool:=
 match P.underlying t,P.info? t with
 |some d,some i=>(match n with|some m=>XU d&&i.size == m|none=>!XU d&&i.size == 1)
 |_,_=>false
theorem Wg{P:Program}{t:TypeId}{n:Option Nat}(h:HN P t n=true):∃d i,P.underlying t=some d/\P.info? t=some i/\XU d=n.isSome/\i.size=n.getD 1:=by
 unfold HN at h;split at h
 ·rename_i d i hd hi;refine⟨d,i,hd,hi,?_⟩;cases n with
  |some m=>simp at h;exact⟨h.1,h.2⟩
  |none=>simp at h;exact⟨h.1,h.2⟩
 cases h
def I0(P:Program)(t:TypeId)(w:Nat):Bool:=
 match P.underlying t with
 |some (.slice e)=>(match P.info? e with|some i=>(match i.zero with|some z=>i.size == w&&i.bytes<=128&&z.cells.size == w|none=>false)|none=>false)
 |_=>false
theorem We{P:Program}{t:TypeId}{w:Nat}(h:I0 P t w=true):∃e i z,P.underlying t=some (.slice e)/\P.info? e=some i/\i.size=w/\i.bytes<=128/\i.zero=some z/\z.cells.size=w:=by
 unfold I0 at h;split at h
 ·rename_i e g;split at h
  ·rename_i i hi;split at h
   ·rename_i z b;simp at h;exact⟨e,i,z,g,hi,h.1.1,h.1.2,b,h.2⟩
   cases h
  cases h
 cases h
def MD(P:Program)(t:TypeId)(f off:Nat)(n:Option Nat):Bool:=
 match P.underlying t with
 |some (.struct fs)=>(match fs[f]? with|some g=>g.offset == off&&HN P g.type n&&n != some 0|none=>false)
 |_=>false
theorem iL{P:Program}{t:TypeId}{f off:Nat}{n:Option Nat}(h:MD P t f off n=true):∃(b:Array Field) (g:Field),P.underlying t=some (.struct b)/\b[f]?=some g/\g.offset=off/\HN P g.type n=true/\n≠some 0:=by
 unfold MD at h;split at h
 ·rename_i b j;split at h
  ·rename_i g i;simp at h;exact⟨b,g,j,i,h.1.1,h.1.2,h.2⟩
  cases h
 cases h
theorem Zc8{P:Program}{w:World}{v:V}{op:BinOp}{k:IntKind}{m n:Int}{t:TypeId}(g:op≠.shl/\op≠.shr)(e:Eb op k m n=some v):∃x,(binOp op t (.int k m) (.int k n)).run P w= .ok x w/\∀ι σ β,Rel ι σ β v x:=by
 cases op;case shl=>exact absurd rfl g.1
 case shr=>exact absurd rfl g.2
 case quo=>
  by_cases b:n=0
  ·simp[Eb,b]at e
  simp only[Eb,Ae b]at e;cases e;exact⟨.int k (k.wrap (m.tdiv n)),by simp[binOp,Op.intDiv,b],λ_ _ _=>.int _ _⟩
 case rem=>
  by_cases b:n=0
  ·simp[Eb,b]at e
  simp only[Eb,Ae b]at e;cases e;exact⟨.int k (m.tmod n),by simp[binOp,Op.intDiv,b],λ_ _ _=>.int _ _⟩
 all_goals cases e
 case and=>exact⟨.int k (k.wrap (BitVec.ofInt k.bits m &&& BitVec.ofInt k.bits n).toNat),by simp only[binOp,GZ,N4,A3];rfl,λ_ _ _=>.int _ _⟩
 case or=>exact⟨.int k (k.wrap (BitVec.ofInt k.bits m ||| BitVec.ofInt k.bits n).toNat),by simp only[binOp,GZ,N4,A3];rfl,λ_ _ _=>.int _ _⟩
 case xor=>exact⟨.int k (k.wrap (BitVec.ofInt k.bits m ^^^ BitVec.ofInt k.bits n).toNat),by simp only[binOp,GZ,N4,A3];rfl,λ_ _ _=>.int _ _⟩
 case andNot=>exact⟨.int k (k.wrap (BitVec.ofInt k.bits m &&& ~~~BitVec.ofInt k.bits n).toNat),by simp only[binOp,GZ,N4,A3];rfl,λ_ _ _=>.int _ _⟩
 all_goals first
  |exact⟨_,by simp only[binOp,GZ,N4,A3];rfl,λ_ _ _=>.int _ _⟩
  |exact⟨_,by simp only[binOp,GZ,N4,A3];rfl,λ_ _ _=>.bool _⟩
theorem gQ{P:Program}{w:World}{t:TypeId}{x y:Bool}(h:P.underlying t=some .bool):(Op.equal t (.bool x) (.bool y)).run P w= .ok (x == y) w:=by
 unfold Op.equal Op.maxDepth;exact run_equalIn_bool' w 9999 t x y h
theorem Zg9{y:Operand}(h:AE y (.c (.ifc true))=true):y= .const .nilIface:=by
 cases y with
 |const v=>cases v<;>first|rfl|simp[AE,MB]at h
 |tmp t=>simp[AE]at h
 |global g=>simp[AE]at h
 |func f=>simp[AE]at h
theorem Zhm{ι:AF}{σ:Ab}{β:Nat->Nat}{p:Bool}{x:Value}(h:Rel ι σ β (.ifc p) x):(p=true/\x= .nilIface)\/(p=false/\∃t u,x= .iface t u):=by
 cases h
 ·exact .inl ⟨rfl,rfl⟩
 exact .inr ⟨rfl,_,_,rfl⟩
theorem RU{P:Program}{w:World}{o:Oper}{a:Act}{c:Call}{b:Builtin}(g:o.op= .call c)(i:c.callee= .builtin b):(execOp a.eval o).run P w=(builtin b c.argTypes o.type (c.args.map fun|.const _=>true|_=>false) (c.args.map a.eval)).run P w:=by
 simp only[execOp,g,resolve,i];rfl
def Out(P:Program)(o:Oper)(a:Act)(ι0:AF)(σ0:Ab)(w0 w:World)(sl:List V)(v:V)(bx:List (List V))(hp:Ab):Prop:=
 ∃b x w' ι' β',(execOp a.eval o).run P w= .ok b w'/\(b= .value x\/(b= .skip/\x=Go.undef))/\HRel ι' hp w'/\BRel ι' hp β' bx w0 w' /\
   SRel ι' hp β' sl a.tmps/\Rel ι' hp β' v x/\Step ι0 σ0 w0 ι' hp w'
section
variable {P:Program} {o:Oper} {a:Act} {ι:AF} {β:Nat->Nat} {st:St} {w0 w:World} {v:V} {bx:List (List V)} {hp:Ab}
 (H:HRel ι st.hp w) (B:BRel ι st.hp β st.bx w0 w) (S:SRel ι st.hp β st.sl a.tmps) {ι0:AF} {σ0:Ab} (T:Step ι0 σ0 w0 ι st.hp w)
include H B S T
theorem Out.pure{x:Value}(g:(execOp a.eval o).run P w= .ok (.value x) w)(b:Rel ι st.hp β v x)(e:some (v,st.bx,st.hp)=some (v,bx,hp)):Out P o a ι0 σ0 w0 w st.sl v bx hp:=by
 cases e;exact⟨_,x,w,ι,β,g,.inl rfl,H,B,S,b,T⟩
theorem pP{x:Operand}{y:T_}(b:o.op= .move x\/o.op= .assign x)(g:AE x y=true)(e:Af (.mv y) st=some (v,bx,hp)):Out P o a ι0 σ0 w0 w st.sl v bx hp:=by
 simp[Af]at e;obtain⟨rfl,rfl,rfl⟩:=e;refine Out.pure H B S T (x:=a.eval x) ?_ (BG g S) rfl;rcases b with b|b<;>simp[execOp,b]
theorem ZfT{x:Operand}{y:T_}(j:o.op= .nilCheck x)(n:AE x y=true)(e:Af (.z_ y) st=some (v,bx,hp)):Out P o a ι0 σ0 w0 w st.sl v bx hp:=by
 have b:=BG n S;simp only[Af]at e;split at e
 ·rename_i i q g;rw[g]at b;have:=SF b;cases e;exact Out.pure H B S T (x:=a.eval x) (by simp[execOp,j,this]) b rfl
 ·rename_i i q g;rw[g]at b;have:=(IK b).2;cases e;exact Out.pure H B S T (x:=a.eval x) (by simp[execOp,j,this]) b rfl
 cases e
theorem ZhM{c x y:Operand}{c' g b:T_}(q:o.op= .pick c x y)(s:AE c c'=true)(n:AE x g=true)(j:AE y b=true)(e:Af (.pick c' g b) st=some (v,bx,hp)):Out P o a ι0 σ0 w0 w st.sl v bx hp:=by
 have i:=BG s S;simp only[Af]at e;split at e
 ·rename_i t ht;rw[ht]at i;have u:=P2 i;cases e;refine Out.pure H B S T (x:=if t then a.eval x else a.eval y) (by simp[execOp,q,u,asBool]) ?_ rfl;cases t
  ·exact BG j S
  exact BG n S
 cases e
theorem Zja{x:Operand}{j:T_}{op:UnOp}{t:TypeId}(q:o.op= .unOp op t x)(s:AE x j=true)(e:Af (.un op j) st=some (v,bx,hp)):Out P o a ι0 σ0 w0 w st.sl v bx hp:=by
 have g:=BG s S;simp only[Af,Je]at e;split at e
 ·rename_i b i;rw[i]at g;have:=P2 g;simp at e;obtain⟨rfl,rfl,rfl⟩:=e;exact Out.pure H B S T (x:=.bool (!b)) (by simp[execOp,q,this,Op.unary]) (.bool _) rfl
 ·rename_i k n i;rw[i]at g;have:=E0 g;simp at e;obtain⟨rfl,rfl,rfl⟩:=e;exact Out.pure H B S T (x:=.int k (k.wrap (0-n))) (by simp[execOp,q,this,Op.unary,Op.intArith]) (by simpa using Rel.int k (k.wrap (0-n))) rfl
 simp at e
theorem Zh5{op:BinOp}{t u:TypeId}{x y:Operand}{M L:T_}(O:o.op= .binOp op t x y u)(Z:AE x M=true)(Y:AE y L=true)(e:Af (.bin op M L) st=some (v,bx,hp)):Out P o a ι0 σ0 w0 w st.sl v bx hp:=by
 have D:=BG Z S;have C:=BG Y S;simp only[Af,Ca]at e;obtain⟨r,b,e2⟩:=e;cases e2;suffices h:∃z,(execOp a.eval o).run P w= .ok (.value z) w/\Rel ι st.hp β v z by
  obtain⟨z,h1,s⟩:=h;exact Out.pure H B S T h1 s rfl
 unfold Cy at b;split at b
 ·rename_i k m F n q j;rw[q]at D;rw[j]at C;have J:=E0 D;have I:=E0 C;have go:∀z,(binOp op t (.int k m) (.int F n)).run P w= .ok z w->(∀ι σ β,Rel ι σ β v z)->∃z,(execOp a.eval o).run P w= .ok (.value z) w/\Rel ι st.hp β v z:=by
   intro z h1 s;refine⟨z,?_,s _ _ _⟩;have G:(eqGuard op t x y (.int k m) (.int F n)).run P w= .ok () w:=by
    unfold eqGuard;cases op<;>rfl
   simp only[execOp,O,J,I,D1,G,h1,Dm];rfl
  have N:∀(A:op= .shl\/op= .shr),NV op k m n=some v->∃z,(execOp a.eval o).run P w= .ok (.value z) w/\Rel ι st.hp β v z:=by
   intro A b;unfold NV at b;split at b
   ·cases b
   rename_i R;rcases A with rfl|rfl
   ·cases b;exact go (.int k (k.wrap (m*2^min n.toNat k.bits))) (by simp[binOp,Op.shift,R]) λ_ _ _=>.int _ _
   cases b;exact go (.int k (m.fdiv (2^min n.toNat k.bits))) (by simp[binOp,Op.shift,R]) λ_ _ _=>.int _ _
  split at b
  ·exact N (.inl rfl) b
  ·exact N (.inr rfl) b
  rename_i h1 s;by_cases U:k=F
  ·subst U;simp only[AS]at b;obtain⟨z,g1,g2⟩:=Zc8 (P:=P) (w:=w) (t:=t) ⟨h1,s⟩ b;exact go z g1 g2
  simp[U]at b
 ·rename_i i g q j;rw[q]at D;rw[j]at C;have J:=Qd D;have I:=Qd C;have G:(eqGuard op t x y (.string ⟨i.toArray⟩) (.string ⟨g.toArray⟩)).run P w= .ok () w:=by
   unfold eqGuard;cases op<;>rfl
  have go:∀z,(Op.stringOp op ⟨i.toArray⟩ ⟨g.toArray⟩).run P w= .ok z w->Rel ι st.hp β v z->∃z,(execOp a.eval o).run P w= .ok (.value z) w/\Rel ι st.hp β v z:=by
   intro z h1 s;refine⟨z,?_,s⟩;have hb:binOp op t (.string ⟨i.toArray⟩) (.string ⟨g.toArray⟩)=Op.stringOp op ⟨i.toArray⟩ ⟨g.toArray⟩:=(by simp[binOp]);simp only[execOp,O,J,I,D1,G,hb,h1,Dm];rfl
  split at b
  ·split at b
   ·rename_i hl;cases b;refine go (.string ⟨(i++g).toArray⟩) ?_ (.str _);rw[run_string_add_sum w _ _ (by simpa [ByteArray.size]using hl),ByteArray.mk_append_mk]
   cases b
  ·cases b;exact go (.bool (i == g)) (by simp[Op.stringOp]) (.bool _)
  ·cases b;exact go (.bool (!(i == g))) (by simp[Op.stringOp]) (.bool _)
  cases b
 cases b
theorem Zib {op:BinOp} {t u:TypeId} {b:Bool} {x y:Operand} {s n:T_} (F:o.op= .binOp op t x y u) (g:op=if b then .neq else .eql) (ht:P.underlying t=some .bool)
 (D:AE x s=true) (C:AE y n=true) (e:Af (.eqB b s n) st=some (v,bx,hp)):Out P o a ι0 σ0 w0 w st.sl v bx hp:=by
 have A:=BG D S;have z:=BG C S;simp only[Af]at e;split at e
 ·rename_i p q j i;rw[j]at A;rw[i]at z;have J:=P2 A;have I:=P2 z;cases e;refine Out.pure H B S T (x:=.bool (if b=true then !(p == q)else p == q)) ?_ (.bool _) rfl;have G:(eqGuard op t x y (.bool p) (.bool q)).run P w= .ok () w:=(by unfold eqGuard;cases op<;>rfl);simp only[execOp,F,J,I,D1,G,Dm];cases b
  ·simp only[AY,A3]at g;subst g;simp[binOp,gQ ht]
  simp only[AS]at g;subst g;simp[binOp,gQ ht]
 cases e
theorem Zic {op:BinOp} {t u:TypeId} {g:Bool} {x y:Operand} {z s:T_} {I:Array (String×TypeId)} (F:o.op= .binOp op t x y u) (b:op=if g then .neq else .eql) (ht:P.underlying t=some (.interface I))
 (L:AE x z=true) (J:AE y s=true) (e:Af (.eqN g z s) st=some (v,bx,hp)):Out P o a ι0 σ0 w0 w st.sl v bx hp:=by
 have D:=BG L S;simp only[Af]at e;split at e
 ·rename_i p j;rw[j]at D;cases e;have M:=Zg9 J;subst M;refine Out.pure H B S T (x:=.bool (if g=true then !p else p)) ?_ (.bool _) rfl;have G:a.eval (.const .nilIface)= .nilIface:=rfl;rcases Zhm D with⟨rfl,q⟩|⟨rfl,C,A,q⟩
  ·have n:(eqGuard op t x (.const .nilIface) .nilIface .nilIface).run P w= .ok () w:=(by unfold eqGuard;cases op<;>simp);have i:(Op.equal t .nilIface .nilIface).run P w= .ok true w:=(by unfold Op.equal Op.maxDepth Op.equalIn;simp[C8 ht]);simp only[execOp,F,q,G,D1,n,Dm];cases g
   ·simp only[AY,A3]at b;subst b;simp[binOp,i]
   simp only[AS]at b;subst b;simp[binOp,i]
  have n:(eqGuard op t x (.const .nilIface) (.iface C A) .nilIface).run P w= .ok () w:=(by unfold eqGuard;cases op<;>simp);have i:(Op.equal t (.iface C A) .nilIface).run P w= .ok false w:=(by unfold Op.equal Op.maxDepth Op.equalIn;simp[C8 ht]);simp only[execOp,F,q,G,D1,n,Dm];cases g
  ·simp only[AY,A3]at b;subst b;simp[binOp,i]
  simp only[AS]at b;subst b;simp[binOp,i]
 cases e
theorem ZhZ {s d:TypeId} {k:IntKind} {x:Operand} {g:T_} (q:o.op= .convert s d x) (hs:(P.underlying s).isSome=true) (hd:P.underlying d=some (.int k)) (j:AE x g=true)
 (e:Af (.conv k g) st=some (v,bx,hp)):Out P o a ι0 σ0 w0 w st.sl v bx hp:=by
 have i:=BG j S;obtain⟨y,hs⟩:=Option.isSome_iff_exists.1 hs;simp only[Af]at e;split at e
 ·rename_i u n b;rw[b]at i;have t:=E0 i;cases e;exact Out.pure H B S T (x:=.int k (k.wrap n)) (by simp[execOp,q,t,convert,C8 hs,C8 hd,Conv.intToInt]) (.int _ _) rfl
 cases e
theorem Zhz {c:Call} {t z:TypeId} {x:Operand} {y:T_} (C:o.op= .call c) (D:c.callee= .builtin .len) (i:c.args=#[x]) (u:c.argTypes=#[t]) (ht:P.underlying t=some (.slice z))
 (A:AE x y=true) (e:Af (.len y) st=some (v,bx,hp)):Out P o a ι0 σ0 w0 w st.sl v bx hp:=by
 have s:=BG A S;have go:∀(b:Option Addr) (n c':Nat),a.eval x= .slice b n c'->(execOp a.eval o).run P w= .ok (.value (.int .i64 n)) w:=by
  intro b n c' j;rw[RU C D];simp[builtin,Builtin.len_,i,u,j,C8 ht,goInt]
 simp only[Af]at e;split at e
 ·rename_i g;rw[g]at s;obtain⟨b,j⟩:=P1 s;cases e;exact Out.pure H B S T (x:=.int .i64 0) (by simpa using go b 0 0 j) (.int _ _) rfl
 ·rename_i l q n g;rw[g]at s;obtain⟨X_,F,h⟩:=Ge s;cases e;rcases h with⟨c',j,_⟩|⟨rfl,b,j⟩
  ·exact Out.pure H B S T (x:=.int .i64 n) (go _ n c' j) (.int _ _) rfl
  exact Out.pure H B S T (x:=.int .i64 (0:Nat)) (go b 0 0 j) (.int _ _) rfl
 cases e
theorem ZgJ {c:Call} {t:TypeId} {x:Operand} {j:T_} (y:o.op= .call c) (z:c.callee= .builtin .len) (b:c.args=#[x]) (i:c.argTypes=#[t]) (ht:P.underlying t=some .string)
 (u:AE x j=true) (e:Af (.lenT j) st=some (v,bx,hp)):Out P o a ι0 σ0 w0 w st.sl v bx hp:=by
 have n:=BG u S;simp only[Af]at e;split at e
 ·rename_i s g;rw[g]at n;have A:=Qd n;cases e;have q:(ByteArray.mk s.toArray).size=s.length:=XW;exact Out.pure H B S T (x:=.int .i64 s.length) (by rw[RU y z];simp[builtin,Builtin.len_,b,i,A,C8 ht,goInt,q]) (.int _ _) rfl
 cases e
theorem ZhC {c:Call} {x y:Operand} {q j:T_} (A:o.op= .call c) (C:c.callee= .builtin .min) (b:c.args=#[x,y]) (z:AE x q=true) (u:AE y j=true)
 (e:Af (.minI q j) st=some (v,bx,hp)):Out P o a ι0 σ0 w0 w st.sl v bx hp:=by
 have t:=BG z S;have s:=BG u S;simp only[Af]at e;split at e
 ·rename_i m n i g;rw[i]at t;rw[g]at s;have F:=E0 t;have D:=E0 s;cases e;exact Out.pure H B S T (x:=.int .i64 (if n<m then n else m)) (by rw[RU A C];simp[builtin,Builtin.min_,Builtin.min2,b,F,D]) (.int _ _) rfl
 cases e
theorem Zhc {c:Call} {x y:Operand} {q j:T_} (A:o.op= .call c) (C:c.callee= .builtin .max) (b:c.args=#[x,y]) (z:AE x q=true) (u:AE y j=true)
 (e:Af (.maxI q j) st=some (v,bx,hp)):Out P o a ι0 σ0 w0 w st.sl v bx hp:=by
 have t:=BG z S;have s:=BG u S;simp only[Af]at e;split at e
 ·rename_i m n i g;rw[i]at t;rw[g]at s;have F:=E0 t;have D:=E0 s;cases e;exact Out.pure H B S T (x:=.int .i64 (if n > m then n else m)) (by rw[RU A C];simp[builtin,Builtin.max_,Builtin.max2,b,F,D]) (.int _ _) rfl
 cases e
theorem ZcZ{x:Operand}{g:T_}{i:Nat}(t:o.op= .extract x i)(s:AE x g=true)(e:Af (.extract g i) st=some (v,bx,hp)):Out P o a ι0 σ0 w0 w st.sl v bx hp:=by
 have j:=BG s S;simp only[Af]at e;split at e
 ·rename_i A b;rw[b]at j;obtain⟨ws,z,y,C,h⟩:=nJ j;split at e
  ·rename_i u q;cases e;have hi:i<ws.length:=(by rw[<- y];exact(List.getElem?_eq_some_iff.1 q).1);have n:ws[i]?=some ws[i]:=A9 hi;exact Out.pure H B S T (x:=ws[i]) (by simp[execOp,t,z,Instr.extract,n]) (h i _ _ q n) rfl
  cases e
 cases e
end
theorem Ms(b o n:Nat):(⟨b,o,none⟩:Addr).add n=⟨b,o+n,none⟩:=by
 unfold Addr.add;split
 ·rename_i h;subst h;rfl
 rfl
theorem RR{P:Program}{w:World}{ad:Addr}{cs:List Value}(h:∀(j:Nat) v,cs[j]?=some v->w.cell? (ad.add j)=some v):(loadCells ad cs.length).run P w= .ok cs.toArray w:=run_loadCells_list w ad cs h
theorem V3 {P:Program}{w:World}{t:TypeId}{n:Option Nat}(ht:HN P t n=true){ad:Addr}{cs:List Value}(y:cs.length=n.getD 1)(h:∀(j:Nat) v,cs[j]?=some v->w.cell? (ad.add j)=some v):(n.isSome=true->(loadVar t ad).run P w= .ok (.agg cs.toArray) w)/\(n=none->∀x,cs=[x]->(loadVar t ad).run P w= .ok x w):=by
 obtain⟨d,i,hd,hi,b,g⟩:=Wg ht;refine⟨λq=>?_,λq x u=>?_⟩
 ·have s:=RR (P:=P) h;rw[y,<- g]at s;simp only[loadVar,D1,MG hd,Dm,b,q,AS,FV hi,s];rfl
 subst q;subst u;have h0:=h 0 x rfl;have z:ad.add 0=ad:=by simp[Addr.add]
 rw[z]at h0;simp[loadVar,MG hd,b,h0]
theorem W7{ι:AF}{st:St}{w:World}(H:HRel ι st.hp w){l q n:Nat}{cs:List V}(e:rd st.hp l q n=some cs):∃ws:List Value,ws.length=n/\cs.length=n/\(∀u,u∈cs->u.cell=true) /\
 (∀(j:Nat) y,ws[j]?=some y->w.cell? ((⟨(ι l).b,(ι l).o+q,none⟩:Addr).add j)=some y)/\∀(j:Nat) u y,cs[j]?=some u->ws[j]?=some y->∀β',Rel ι st.hp β' u y:=by
 obtain⟨b,M,J,C,rfl⟩:=ZhF e;have t:∀j,j<n->∃y,w.cell? ((⟨(ι l).b,(ι l).o+q,none⟩:Addr).add j)=some y/\∀u,b.cs[q+j]?=some u->u.cell=true/\∀β',Rel ι st.hp β' u y:=by
  intro j z;have F:q+j<b.cs.length:=(by omega);obtain⟨L,y,i,I⟩:=H.cells l b M J (q+j) _ (A9 F);refine⟨y,by rw[Ms,S9];exact i,λu s=>?_⟩;rw[A9 F]at s;cases s;exact⟨L,I⟩
 let ws:List Value:=(List.range n).map λj=>(w.cell? ((⟨(ι l).b,(ι l).o+q,none⟩:Addr).add j)).getD default;have A:∀j y,ws[j]?=some y->j<n/\w.cell? ((⟨(ι l).b,(ι l).o+q,none⟩:Addr).add j)=some y:=by
  intro j y i;have z:j<n:=by
   rcases Bx j n with h|h
   ·exact h
   simp[ws,h]at i
  obtain⟨G,g,_⟩:=t j z;simp[ws,z,g]at i;subst i;exact⟨z,g⟩
 refine⟨ws,by simp[ws],RF C,λu s=>?_,λj y i=>(A j y i).2,λj u y s i β'=>?_⟩
 ·obtain⟨k,x⟩:=JH s;obtain⟨D,x⟩:=Fi x;obtain⟨_,_,h⟩:=t k D;exact(h u x).1
 obtain⟨z,s⟩:=Fi s;obtain⟨G,g,h⟩:=t j z;have:=(A j y i).2;rw[g]at this;cases this;exact(h u s).2 β'
section
variable {P:Program} {o:Oper} {a:Act} {ι:AF} {β:Nat->Nat} {st:St} {w0 w:World} {v:V} {bx:List (List V)} {hp:Ab}
 (H:HRel ι st.hp w) (B:BRel ι st.hp β st.bx w0 w) (S:SRel ι st.hp β st.sl a.tmps) {ι0:AF} {σ0:Ab} (T:Step ι0 σ0 w0 ι st.hp w)
include H B S T
theorem ZeZ {t:TypeId} {f off:Nat} {n:Option Nat} {x:Operand} {A:T_} (F:o.op= .fieldAddr t x f) (G:MD P t f off n=true) (D:AE x A=true)
 (e:Af (.f5 off A) st=some (v,bx,hp)):Out P o a ι0 σ0 w0 w st.sl v bx hp:=by
 have u:=BG D S;obtain⟨O,g,h1,M,L,J,I⟩:=iL G;obtain⟨d,i,hd,hi,_,z⟩:=Wg J;have N:i.size≠0:=by
  rw[z];cases n with
  |none=>simp
  |some m=>simpa using I
 have go:∀b q,a.eval x= .pointer (some ⟨b,q,none⟩)->(execOp a.eval o).run P w= .ok (.value (.pointer (some ⟨b,q+off,none⟩))) w:=by
  intro b q y;simp[execOp,F,y,Instr.fieldAt,C8 h1,M,Instr.sureAddr,fieldPlace,FV hi,N,Ms,L]
 simp only[Af]at e;split at e
 ·rename_i j q s;rw[s]at u;have y:=SF u;cases e;exact Out.pure H B S T (go _ _ y) (.box _ _) rfl
 ·rename_i l q s;rw[s]at u;obtain⟨⟨X_,C⟩,y⟩:=IK u;cases e;have:=Rel.ptr (ι:=ι) (σ:=st.hp) (β:=β) l (q+off) X_ C (Wx u C);exact Out.pure H B S T (go _ _ y) (by rwa [<- S9]at this) rfl
 cases e
theorem Zge {t:TypeId} {f off:Nat} {n:Option Nat} {x:Operand} {I:T_} (L:o.op= .field t x f) (Y:MD P t f off n=true) (R:AE x I=true)
 (e:Af (.field off n I) st=some (v,bx,hp)):Out P o a ι0 σ0 w0 w st.sl v bx hp:=by
 have J:=BG R S;obtain⟨fs,g,h1,N,M,Z,h5⟩:=iL Y;obtain⟨d,i,hd,hi,s,D⟩:=Wg Z;simp only[Af]at e;split at e
 ·rename_i cs A;rw[A]at J;obtain⟨ws,O,hl,U,h⟩:=cz J;split at e
  ·rename_i F;simp only[Ca]at e;obtain⟨u,e1,e2⟩:=e;cases e2;have C:((ws.drop off).take (n.getD 1)).length=n.getD 1:=(by simp;omega);have G:=RF F;rcases WD (ι:=ι) (σ:=st.hp) (β:=β) (ws:=(ws.drop off).take (n.getD 1)) e1 (by rw[C,G])
    (λu q=>U u (List.mem_of_mem_drop (Lw q)))
    (λj u y q b=>by
     obtain⟨_,q⟩:=Fi q;obtain⟨_,b⟩:=Fi b;exact h _ _ _ q b)with⟨hn,hr⟩|⟨hn,y,b,hr⟩
   ·refine Out.pure H B S T ?_ hr rfl;simp[execOp,L,O,Instr.field,C8 h1,N,part,asAgg,MG hd,s,hn,FV hi,D,M,XF]
   refine Out.pure H B S T ?_ hr rfl;subst hn;have z:ws[off]?=some y:=by
    have:((ws.drop off).take 1)[0]?=some y:=by
     have:=congrArg (λl:List Value=>l[0]?) b;simpa using this
    rw[IX]at this;simpa using this
   simp[execOp,L,O,Instr.field,C8 h1,N,part,asAgg,MG hd,s,M,z]
  cases e
 cases e
theorem Zd9 {t:TypeId} {b:Nat} {x i:Operand} {A D:T_} (J:o.op= .indexAddr t x i) (I:I0 P t b=true) (G:AE x A=true) (hi:AE i D=true)
 (e:Af (.p_ b A D) st=some (v,bx,hp)):Out P o a ι0 σ0 w0 w st.sl v bx hp:=by
 have g:=BG G S;have C:=BG hi S;obtain⟨el,inf,z,h1,N,M,_,_,_⟩:=We I;simp only[Af]at e;split at e
 ·rename_i l q n k j s y;rw[s]at g;rw[y]at C;obtain⟨X_,F,h⟩:=Ge g;have R:=E0 C;split at e
  ·rename_i L;cases e;rcases h with⟨c,O,U,Y⟩|⟨rfl,_⟩
   ·have:=Rel.ptr (ι:=ι) (σ:=st.hp) (β:=β) l (q+j.toNat*b) X_ F (Mk g F);refine Out.pure H B S T ?_ this rfl;have u:0<=j/\j<(n:Int):=L;simp[execOp,J,O,R,Instr.indexAt,asIntOf,C8 h1,u,FV N,M,Ms,S9]
   omega
  cases e
 cases e
theorem Zfp {t:TypeId} {x i:Operand} {u A:T_} (F:o.op= .index t x i) (ht:P.underlying t=some .string) (D:AE x u=true) (hi:AE i A=true)
 (e:Af (.index u A) st=some (v,bx,hp)):Out P o a ι0 σ0 w0 w st.sl v bx hp:=by
 have y:=BG D S;have z:=BG hi S;simp only[Af]at e;split at e
 ·rename_i s k j g n;rw[g]at y;rw[n]at z;have J:=Qd y;have L:=E0 z;split at e
  ·rename_i G;split at e
   ·rename_i b C;cases e;refine Out.pure H B S T (x:=.int .u8 b.toNat) ?_ (.int _ _) rfl;have I:j.toNat<s.length:=(List.getElem?_eq_some_iff.1 C).1;have q:(⟨s.toArray⟩:ByteArray)[j.toNat]?=some b:=by
     rw[ByteArray.getElem?_lt' _ _ (by simpa [ByteArray.size]using I)];have:=(List.getElem?_eq_some_iff.1 C).2;exact congrArg some this
    simp[execOp,F,J,L,Instr.index,asIntOf,C8 ht,G,q]
   cases e
  cases e
 cases e
theorem Zgw{t:TypeId}{i:Nat}{n:Option Nat}{x:Operand}{Y:T_}(M:o.op= .load t x)(ht:HN P t n=true)(hx:AE x Y=true)(e:Af (.d7 i n Y) st=some (v,bx,hp)):Out P o a ι0 σ0 w0 w st.sl v bx hp:=by
 have Z:=BG hx S;simp only[Af]at e;split at e
 ·rename_i j q L;rw[L]at Z;have R:=SF Z;split at e
  ·rename_i hc;obtain⟨rfl,A⟩:=hc;simp only[Ca]at e;obtain⟨u,U,e2⟩:=e;cases e2;by_cases h0:n.getD 1=0
   ·
    have F:n=some 0:=(by cases n with|none=>simp at h0|some m=>simpa using h0);subst F;simp[CC]at U;subst U;have:=(V3 ht (w:=w) (ad:=⟨β i,q,none⟩) (cs:=[]) rfl (λj v h=>by simp at h)).1 rfl;exact Out.pure H B S T (x:=.agg #[]) (by simp[execOp,M,R,Instr.loadAt,Instr.sureAddr,this]) (.agg [] [] rfl (by simp) (by simp)) rfl
   have I:AZ st.bx i≠[]:=λh=>(by rw[h]at A;simp at A;omega);have O:st.bx[i]?=some (AZ st.bx i):=by
    rw[SI]at I ⊢;cases h:st.bx[i]? with
    |none=>rw[h]at I;exact absurd rfl I
    |some c=>rfl
   obtain⟨arr,el,G,hsz,b⟩:=B.cells i _ O I;have s:((arr.toList.drop q).take (n.getD 1)).length=n.getD 1:=(by simp;omega);have z:∀(j:Nat) y,((arr.toList.drop q).take (n.getD 1))[j]?=some y->w.cell? ((⟨β i,q,none⟩:Addr).add j)=some y:=by
    intro j y g;obtain⟨_,g⟩:=Fi g;rw[Ms];simp only[World.cell?,G];simpa using g
   have hl:=V3 (P:=P) ht s z;rcases WD (ι:=ι) (σ:=st.hp) (β:=β) (ws:=(arr.toList.drop q).take (n.getD 1)) U (by rw[s,RF A])
    (λu C=>by
     obtain⟨k,N⟩:=JH C;obtain⟨_,N⟩:=Fi N;exact(b _ _ N).1)
    (λj u y C g=>by
     obtain⟨_,C⟩:=Fi C;obtain⟨_,y',J,D⟩:=b _ _ C;obtain⟨_,g⟩:=Fi g;have:arr[q+j]?=some y:=(by simpa using g);rw[J]at this;cases this;exact D _)with⟨F,D⟩|⟨F,y,g,D⟩
   ·exact Out.pure H B S T (by simp[execOp,M,R,Instr.loadAt,Instr.sureAddr,hl.1 F]) D rfl
   exact Out.pure H B S T (by simp[execOp,M,R,Instr.loadAt,Instr.sureAddr,hl.2 F y g]) D rfl
  cases e
 cases e
theorem lK{t:TypeId}{n:Option Nat}{x:Operand}{z:T_}(C:o.op= .load t x)(ht:HN P t n=true)(G:AE x z=true)(e:Af (.i5 n z) st=some (v,bx,hp)):Out P o a ι0 σ0 w0 w st.sl v bx hp:=by
 have A:=BG G S;simp only[Af]at e;split at e
 ·rename_i l q g;rw[g]at A;obtain⟨_,F⟩:=IK A;simp only[Ca]at e;obtain⟨cs,U,u,R,O⟩:=e;cases O;obtain⟨ws,h1,N,M,L,J⟩:=W7 H U;have D:=V3 (P:=P) ht h1 L;rcases WD (ι:=ι) (σ:=st.hp) (β:=β) R (by rw[h1,N]) M (λj u y I b=>J j u y I b _)with⟨s,i⟩|⟨s,y,b,i⟩
  ·exact Out.pure H B S T (by simp[execOp,C,F,Instr.loadAt,Instr.sureAddr,D.1 s]) i rfl
  exact Out.pure H B S T (by simp[execOp,C,F,Instr.loadAt,Instr.sureAddr,D.2 s y b]) i rfl
 cases e
end
def Hn:Option Operand->Option T_->Bool
 |none,none=>true|some x,some y=>AE x y|_,_=>false
theorem jY{x:Option Operand}{y:Option T_}(h:Hn x y=true){ι:AF}{σ:Ab}{β:Nat->Nat}{sl:List V}{a:Act}(S:SRel ι σ β sl a.tmps){d n:Nat}(e:Eo d (y.map (·.ev sl))=some n):(x=none/\n=d)\/∃q k i,x=some q/\a.eval q= .int k i/\0<=i/\n=i.toNat:=by
 cases x with
 | none=>cases y with
   |none=>simp[Eo]at e;exact .inl ⟨rfl,e.symm⟩
   |some y=>simp[Hn]at h
 | some x=>cases y with
   |none=>simp[Hn]at h
   | some y=>
     have b:=BG (show AE x y=true from h) S;simp only[Cq]at e;unfold Eo at e;split at e
     ·rename_i h1;cases h1
     ·rename_i k i h1;simp only[Ao]at h1;rw[h1]at b;split at e
      ·rename_i hi;cases e;exact .inr ⟨x,k,i,rfl,E0 b,hi,rfl⟩
      cases e
     cases e
theorem jD {P:Program} {w:World} {ι:AF} {σ:Ab} {β:Nat->Nat} {sl:List V} {a:Act} (S:SRel ι σ β sl a.tmps) {z hi:Option Operand} {g s:Option T_} (x:Hn z g=true) (y:Hn hi s=true)
 {isS:Bool} {j cap l h:Nat} (el:Eo 0 (g.map (·.ev sl))=some l) (D:Eo j (s.map (·.ev sl))=some h) (h1:l<=h) (G:h<=cap) (F:hi=none->h<=cap):
 (Instr.sliceBounds isS j cap (z.map a.eval) (hi.map a.eval) none).run P w= .ok (l,h,cap) w:=by
 rcases jY x S el with⟨rfl,rfl⟩|⟨q,k,i,rfl,C,n,rfl⟩<;>rcases jY y S D with⟨rfl,rfl⟩|⟨q',A,u,rfl,t,b,rfl⟩
 ·simp[Instr.sliceBounds]
 ·simp[Instr.sliceBounds,t,Xk w A u cap _ b (by omega)]
 ·simp[Instr.sliceBounds,C,Xk w k i h _ n (by omega)]
 simp[Instr.sliceBounds,C,t,Xk w A u cap _ b (by omega),Xk w k i u.toNat _ n (by omega)]
theorem Ze7{ι:AF}{β:Nat->Nat}{st:St}{cs:List V}{ws:List Value}{s:List UInt8}(e:Qf cs=some s)(q:cs.length=ws.length)(h:∀(j:Nat) u y,cs[j]?=some u->ws[j]?=some y->Rel ι st.hp β u y):∃b:List Int,ws=b.map (Value.int .u8)/\s=b.map λn=>UInt8.ofNat n.toNat:=by
 induction cs generalizing ws s with
 | nil=>cases ws with
   |nil=>simp[Qf]at e;exact⟨[],rfl,by simpa using e.symm⟩
   |cons=>simp at q
 | cons c r ih=>cases ws with
   |nil=>simp at q
   | cons y ys=>
     have h0:=h 0 c y rfl rfl;unfold Qf at e;split at e
     ·rename_i h1;cases h1
     ·rename_i n r' h1;cases h1;simp only[B9]at e;obtain⟨C,A,z⟩:=e;obtain⟨b,i,g⟩:=ih A (by simpa using q) (λj u y x t=>h (j+1) u y (by simpa using x) (by simpa using t));exact⟨n::b,by rw[E0 h0,i];rfl,by rw[<- z,g];rfl⟩
     cases e
section
variable {P:Program} {o:Oper} {a:Act} {ι:AF} {β:Nat->Nat} {st:St} {w0 w:World} {v:V} {bx:List (List V)} {hp:Ab}
 (H:HRel ι st.hp w) (B:BRel ι st.hp β st.bx w0 w) (S:SRel ι st.hp β st.sl a.tmps) {ι0:AF} {σ0:Ab} (T:Step ι0 σ0 w0 ι st.hp w)
include H B S T
theorem ZfZ {t:TypeId} {M:Nat} {x:Operand} {lo hi:Option Operand} {Z:T_} {A D:Option T_} (ho:o.op= .slice t x lo hi none) (hw:I0 P t M=true) (hx:AE x Z=true) (R:Hn lo A=true) (Y:Hn hi D=true)
 (e:Af (.slice M Z A D) st=some (v,bx,hp)):Out P o a ι0 σ0 w0 w st.sl v bx hp:=by
 have y:=BG hx S;obtain⟨el,inf,z,h1,h2,h3,_,_,_⟩:=We hw;have go:∀(b:Option Addr) (n c l h:Nat),a.eval x= .slice b n c->Eo 0 (A.map (·.ev st.sl))=some l->Eo n (D.map (·.ev st.sl))=some h->l<=h->h<=c ->
  (execOp a.eval o).run P w= .ok (.value (.slice (if c=l then b else b.map (·.add (l*M))) (h-l) (c-l))) w:=by
  intro b n c l h G i j O N;have u:=jD (P:=P) (w:=w) S R Y (isS:=true) (cap:=c) i j O N (λ_=>N);simp only[execOp,ho,G,Instr.sliceAt,D1,C8 h1,Dm,Instr.slice,Option.map_none];simp only[u,Dm,FV h2,h3];rfl
 simp only[Af]at e;split at e
 ·rename_i C;rw[C]at y;obtain⟨b,G⟩:=P1 y;simp only[Ca]at e;obtain⟨l,i,h,j,e⟩:=e;split at e
  ·rename_i hz;obtain⟨rfl,rfl⟩:=hz;cases e;have:=go b 0 0 0 0 G i j (BH _) (BH _);exact Out.pure H B S T this (by simpa using Rel.b_ b) rfl
  cases e
 ·rename_i l q n C;rw[C]at y;obtain⟨X_,u,F⟩:=Ge y;simp only[Ca]at e;obtain⟨g,i,s,j,e⟩:=e;split at e
  ·rename_i U;obtain⟨O,N,L⟩:=U;simp only[ED,u,Ao]at L;cases e;rcases F with⟨c,G,hn,hc⟩|⟨rfl,b,G⟩
   ·have I:=go _ n c g s G i j O (CV N hn);refine Out.pure H B S T I ?_ rfl;by_cases J:c=g
    ·have e1:s-g=0:=(by omega);have e2:c-g=0:=(by omega);rw[Ac J,e1,e2];exact .sliceEnd l _ X_ u _ (Mk y u)
    rw[Ae J];have hm:(c-g)*X_.w+g*X_.w=c*X_.w:=(by rw[<- DP];congr 1;omega);have:=Rel.slice (ι:=ι) (σ:=st.hp) (β:=β) l (q+g*M) (s-g) (c-g) X_ u (by omega) (by rw[<- L];omega) (Mk y u);simpa [Ms,S9]using this
   have h0:g=0/\s=0:=(by omega);obtain⟨rfl,rfl⟩:=h0;have:=go b 0 0 0 0 G i j (BH _) (BH _);exact Out.pure H B S T this (by simpa using Rel.sliceEnd l q X_ u b (Mk y u)) rfl
  cases e
 cases e
theorem Zds {t:TypeId} {x:Operand} {D hi:Option Operand} {A:T_} {g i:Option T_} (G:o.op= .slice t x D hi none) (ht:P.underlying t=some .string) (n:AE x A=true) (q:Hn D g=true) (u:Hn hi i=true)
 (e:Af (.substr A g i) st=some (v,bx,hp)):Out P o a ι0 σ0 w0 w st.sl v bx hp:=by
 have C:=BG n S;simp only[Af]at e;split at e
 ·rename_i s j;rw[j]at C;have J:=Qd C;simp only[Ca]at e;obtain⟨l,y,h,z,e⟩:=e;split at e
  ·rename_i b;cases e;have F:(ByteArray.mk s.toArray).size=s.length:=XW;have I:=jD (P:=P) (w:=w) S q u (isS:=false) (cap:=s.length) y z b.1 b.2 (λ_=>b.2);refine Out.pure H B S T (x:=.string ⟨((s.drop l).take (h-l)).toArray⟩) ?_ (.str _) rfl;simp only[execOp,G,J,Instr.sliceAt,D1,C8 ht,Dm,Instr.slice,Option.map_none];simp only[D1,Dm,I,F,Option.isSome_none,AY,A3];have n:(ByteArray.mk s.toArray).extract l h=⟨((s.drop l).take (h-l)).toArray⟩:=by
    apply ByteArray.ext;simp[XF]
   simp[n]
  cases e
 cases e
theorem Zhs {s d el:TypeId} {x:Operand} {L:T_} (ho:o.op= .convert s d x) (hs:P.underlying s=some (.slice el)) (I:P.underlying el=some (.int .u8)) (hd:P.underlying d=some .string) (Z:AE x L=true)
 (e:Af (.bstr L) st=some (v,bx,hp)):Out P o a ι0 σ0 w0 w st.sl v bx hp:=by
 have D:=BG Z S;have go:∀b n c,a.eval x= .slice b n c->(execOp a.eval o).run P w=((Conv.bytesToString (.slice b n c)).run P w).andThen λu w'=>.ok (.value u) w':=by
  intro b n c C;simp[execOp,ho,C,convert,C8 hs,C8 hd,C8 I]
 simp only[Af]at e;split at e
 ·rename_i i;rw[i]at D;obtain⟨b,C⟩:=P1 D;cases e;refine Out.pure H B S T (x:=.string ⟨#[]⟩) ?_ (.str []) rfl;rw[go _ _ _ C];cases b with
  |none=>simp[Conv.bytesToString];rfl
  | some b=>
    have:=cD (P:=P) w b 0 0 [] (by simp[loadCells,loadCellsFrom]);rw[this];rfl
 ·rename_i l q n i;rw[i]at D;obtain⟨X_,hb,A⟩:=Ge D;simp only[Ca]at e;obtain⟨cs,e0,t,J,e2⟩:=e;cases e2;obtain⟨ws,N,M,q3,U,R⟩:=W7 H e0;obtain⟨g,G,F⟩:=Ze7 (β:=β) J (by rw[N,M]) (λj u y hu Y=>R j u y hu Y _);have z:∀(g:List Int) (r:ByteArray),g.foldl (λr n=>r.push (UInt8.ofNat n.toNat)) r=⟨r.data++(g.map λn=>UInt8.ofNat n.toNat).toArray⟩:=by
   intro g;induction g with
   |nil=>intro r;simp
   | cons n g ih=>
     intro r;rw[List.foldl_cons,ih];apply ByteArray.ext;apply Array.ext';simp[ByteArray.push]
  rcases A with⟨c,C,_,_⟩|⟨rfl,b,C⟩
  ·refine Out.pure H B S T (x:=.string ⟨t.toArray⟩) ?_ (.str _) rfl;rw[go _ _ _ C];have O:=RR (P:=P) U;rw[N]at O;rw[cD (P:=P) w _ n c g (by rw[O,G])];rw[z,F];simp[ByteArray.empty,ByteArray.emptyWithCapacity];rfl
  have ht:t=[]:=by
   have:cs=[]:=List.length_eq_zero_iff.1 M;subst this;simp[Qf]at J;exact J
  subst ht;refine Out.pure H B S T (x:=.string ⟨#[]⟩) ?_ (.str []) rfl;rw[go _ _ _ C];cases b with
  |none=>simp[Conv.bytesToString];rfl
  | some b=>
    have:=cD (P:=P) w b 0 0 [] (by simp[loadCells,loadCellsFrom]);rw[this];rfl
 cases e
end
def Nb(P:Program)(f:TypeId->Option (Option Nat)):List Field->Nat->Option Nat
 |[],off=>some off| g::r,off=>
   match f g.type with
   |some m=>if g.name != "_"&&g.offset == off&&HN P g.type m then Nb P f r (off+m.getD 1)else none
   |none=>none
def LZ(P:Program):Nat->TypeId->Option (Option Nat)
 |0,_=>none| d+1,t=>
   match P.underlying t with
   |some (.int _)=>some none
   |some (.struct fs)=>if P.stoodInHeld t then none else (Nb P (LZ P d) fs.toList 0).map some
   |_=>none
theorem jo:∀(A A' B g:List V) (b:Bool),A.length=A'.length->Em (A++B) (A'++g)=some b ->
 (Em A A'=some false/\b=false)\/(Em A A'=some true/\Em B g=some b)
 |[],[],B,g,b,_,h=>.inr ⟨rfl,h⟩
 |[],_::_,_,_,_,h,_=>by simp at h
 |_::_,[],_,_,_,h,_=>by simp at h
 | x :: A,y::A',B,g,b,hl,h=>by
   simp only[Dn,Em]at h ⊢;cases i:Qx x y with
   |none=>simp[i]at h
   | some t=>
     cases t with
     |false=>simp[i]at h;exact .inl ⟨rfl,h⟩
     |true=>simp only[i]at h ⊢;exact jo A A' B g b (by simpa using hl) h
theorem kF{α:Type}(l:List α)(o k n:Nat)(h:o+k<=n):(l.take n).drop o=((l.drop o).take k)++((l.take n).drop (o+k)):=by
 have e:=(List.take_append_drop k ((l.take n).drop o)).symm;rw[List.drop_drop]at e;have b:((l.take n).drop o).take k=(l.drop o).take k:=by
  rw[List.drop_take,List.take_take];congr 1;omega
 rw[b]at e;exact e
theorem nc {P:Program}{w:World}:∀(d:Nat) (t:TypeId) (m:Option Nat),LZ P d t=some m->∀(ι:AF) (σ:Ab) (β:Nat->Nat) (cs u:List V) (j q:List Value) (b:Bool),
 cs.length=m.getD 1->u.length=m.getD 1->j.length=m.getD 1->q.length=m.getD 1 ->
 (∀(i:Nat) v x,cs[i]?=some v->j[i]?=some x->Rel ι σ β v x)->(∀(i:Nat) v x,u[i]?=some v->q[i]?=some x->Rel ι σ β v x)->Em cs u=some b->∀I,d<=I ->
 (m.isSome=true->(Op.equalIn I t (.agg j.toArray) (.agg q.toArray)).run P w= .ok b w)/\(m=none->∀x y,j=[x]->q=[y]->(Op.equalIn I t x y).run P w= .ok b w)
 |0,_,_,h=>by simp[LZ]at h
 | d + 1, t, m, h => by
   intro ι σ β cs u j q b lc ld lx ly hx hy e I hd;obtain⟨s,rfl⟩:∃s,I=s+1:=⟨I-1,by omega⟩;unfold LZ at h;split at h
   ·rename_i _ k ht;cases h;refine⟨λh=>by simp at h,λ_ x y ex ey=>?_⟩;subst ex;subst ey
    match cs,u,lc,ld with
    | [c],[c'],_,_=>
      have rx:=hx 0 c x rfl rfl;have ry:=hy 0 c' y rfl rfl;have e0:Qx c c'=some b:=by
       unfold Em at e;cases O:Qx c c' with
       |none=>simp[O]at e
       |some t=>cases t<;>simp[O,Em]at e<;>simp[e]
      cases c<;>cases c'<;>simp[Qx]at e0;rw[E0 rx,E0 ry];obtain⟨rfl,e0⟩:=e0;rw[run_equalIn_int w s t _ k _ _ ht,e0]
   ·rename_i fs ht; split at h
    ·cases h
    rename_i hst; simp only[B9]at h;obtain⟨n,hn,rfl⟩:=h;refine⟨λ_=>?_,λh=>by cases h⟩;have hf:P.fieldsOf t=fs:=(by simp[Program.fieldsOf,ht]);rw[run_equalIn_struct w s t _ _ (by rw[hf];exact ht) (by simpa using hst),hf];simp only[IF]at lc ld lx ly;have key:∀(r:List Field) (off n:Nat),Nb P (LZ P d) r off=some n->off<=n->n<=cs.length->n<=j.length->cs.length=u.length->j.length=q.length->∀b,Em ((cs.take n).drop off) ((u.take n).drop off)=some b ->
     (Op.eqFields s j.toArray q.toArray r).run P w= .ok b w:=by
     intro r;induction r with
     | nil=>
       intro off n z _ h1 h2 h3 h4 b G;simp[Nb]at z;subst z;have z1:(cs.take off).drop off=[]:=(by simp);have z2:(u.take off).drop off=[]:=(by simp);rw[z1,z2]at G;simp[Em]at G;subst G;simp[Op.eqFields]
     | cons g r ih=>
       intro off n z hon h1 h2 h3 h4 b G;simp only[Nb]at z;split at z
       ·rename_i m hm;split at z
        ·rename_i O;simp only[Ai,SB,GZ,A7]at O;obtain⟨⟨c1,c2⟩,c3⟩:=O;obtain⟨dd,inf,Z,q2,F,Y⟩:=Wg c3;have J:∀(r:List Field) (off n:Nat),Nb P (LZ P d) r off=some n->off<=n:=by
          intro r;induction r with
          |nil=>intro off n h;simp[Nb]at h;omega
          | cons g r ih=>
            intro off n h;simp only[Nb]at h;split at h
            ·split at h
             ·have:=ih _ _ h;omega
             cases h
            cases h
         have A:=J r _ n z;have sp1:=kF cs off (m.getD 1) n A;have sp2:=kF u off (m.getD 1) n A;rw[sp1,sp2]at G;have l1:((cs.drop off).take (m.getD 1)).length=m.getD 1:=(by simp;omega);have l2:((u.drop off).take (m.getD 1)).length=m.getD 1:=(by simp;omega);have l3:((j.drop off).take (m.getD 1)).length=m.getD 1:=(by simp;omega);have l4:((q.drop off).take (m.getD 1)).length=m.getD 1:=(by simp;omega);have C:∀b',Em ((cs.drop off).take (m.getD 1)) ((u.drop off).take (m.getD 1))=some b' ->
          ∃U R,(part g.type j.toArray g.offset).run P w= .ok U w/\(part g.type q.toArray g.offset).run P w= .ok R w/\(Op.equalIn s g.type U R).run P w= .ok b' w:=by
          intro b' hb';have L:=nc (P:=P) (w:=w) d g.type m hm ι σ β _ _ ((j.drop off).take (m.getD 1)) ((q.drop off).take (m.getD 1)) b' l1 l2 l3 l4
           (λi v x hv D=>hx _ v x (Fi hv).2 (Fi D).2) (λi v x hv D=>hy _ v x (Fi hv).2 (Fi D).2) hb' s (by omega)
          cases m with
          | some k=>
            refine⟨.agg ((j.drop off).take k).toArray,.agg ((q.drop off).take k).toArray,?_,?_,L.1 rfl⟩
            ·simp only[Option.isSome_some,IF]at F Y;simp[part,MG Z,F,FV q2,Y,c2,XF]
            simp only[Option.isSome_some,IF]at F Y;simp[part,MG Z,F,FV q2,Y,c2,XF]
          | none=>
            simp only[Option.getD_none]at l3 l4 A;have N:off<j.length:=(by omega);have M:off<q.length:=(by omega);have ex:(j.drop off).take 1=[j[off]]:=(by rw[Qr N];rfl);have ey:(q.drop off).take 1=[q[off]]:=(by rw[Qr M];rfl);refine⟨j[off],q[off],?_,?_,L.2 rfl _ _ ex ey⟩
            ·simp[part,MG Z,F,c2,N]
            simp[part,MG Z,F,c2,M]
         rcases jo _ _ _ _ b (by rw[l1,l2]) G with⟨e1,rfl⟩|⟨e1,e2⟩
         ·obtain⟨U,R,p1,p2,p3⟩:=C _ e1;simp[Op.eqFields,c1,p1,p2,p3]
         obtain⟨U,R,p1,p2,p3⟩:=C _ e1;have:=ih _ n z A h1 h2 h3 h4 b e2;simp[Op.eqFields,c1,p1,p2,p3,this]
        cases z
       cases z
    refine key fs.toList 0 n hn (EE _) (by omega) (by omega) (by omega) (by omega) b ?_;have t1:cs.take n=cs:=Xy (by omega);have t2:u.take n=u:=Xy (by omega);simpa [t1,t2]using e
   cases h
section
variable {P:Program} {o:Oper} {a:Act} {ι:AF} {β:Nat->Nat} {st:St} {w0 w:World} {v:V} {bx:List (List V)} {hp:Ab}
 (H:HRel ι st.hp w) (B:BRel ι st.hp β st.bx w0 w) (S:SRel ι st.hp β st.sl a.tmps) {ι0:AF} {σ0:Ab} (T:Step ι0 σ0 w0 ι st.hp w)
include H B S T
theorem Ziz {op:BinOp} {t u:TypeId} {n:Nat} {i:Bool} {x y:Operand} {C A:T_} (R:o.op= .binOp op t x y u) (j:op=if i then .neq else .eql) (U:P.eqGuardType P.depth t=false) (Y:LZ P 50 t=some (some n))
 (O:AE x C=true) (N:AE y A=true) (e:Af (.eqA n i C A) st=some (v,bx,hp)):Out P o a ι0 σ0 w0 w st.sl v bx hp:=by
 have F:=BG O S;have D:=BG N S;simp only[Af]at e;split at e
 ·rename_i cs ds s q;rw[s]at F;rw[q]at D;obtain⟨ws,ex,M,_,J⟩:=cz F;obtain⟨us,Z,L,_,I⟩:=cz D;split at e
  ·rename_i g;simp only[Ca]at e;obtain⟨b,e1,e2⟩:=e;cases e2;have G:=(nc (P:=P) (w:=w) 50 t (some n) Y ι st.hp β cs ds ws us b g.1 g.2 (by rw[<- M];exact g.1) (by rw[<- L];exact g.2) J I e1 10000 (by omega)).1 rfl;have z:=run_eqGuard_agg (P:=P) w op t x y ws.toArray us.toArray U;refine Out.pure H B S T (x:=.bool (if i=true then !b else b)) ?_ (.bool _) rfl;simp only[execOp,R,ex,Z,D1,z,Dm];cases i
   ·simp only[AY,A3]at j;subst j;simp[run_eql_struct,G]
   simp only[AS]at j;subst j;simp[run_neq_struct,G]
  cases e
 cases e
end
def upd{α:Type}(f:Nat->α)(i:Nat)(x:α):Nat->α:=λj=>if j=i then x else f j
theorem CB{α:Type}(f:Nat->α)(i:Nat)(x:α):upd f i x i=x:=by simp[upd]
theorem DH{α:Type}(f:Nat->α)(i j:Nat)(x:α)(h:j≠i):upd f i x j=f j:=by simp[upd,h]
def n_(ι:AF)(σ:Ab)(cs:List V)(ws:List Value):Prop:=cs.length<=ws.length/\∀(i:Nat) v,cs[i]?=some v->v.cell=true/\∃x,ws[i]?=some x/\∀β,Rel ι σ β v x
theorem n_.mono{ι ι':AF}{σ σ':Ab}{cs:List V}{ws:List Value}(h:n_ ι σ cs ws)(k:Keeps ι σ ι' σ'):n_ ι' σ' cs ws:=⟨h.1,λi v g=>let ⟨a,x,b,c⟩:=h.2 i v g;⟨a,x,b,λβ=>(c β).cellMono k a⟩⟩
theorem Rel.oneCell{ι:AF}{σ:Ab}{β:Nat->Nat}{v:V}{x:Value}(h:Rel ι σ β v x)(b:v.cell=true):x.oneCell'=true:=by
 cases h<;>first|rfl|simp[V.cell]at b
theorem RN{ι:AF}{σ:Ab}{β:Nat->Nat}{v:V}{x:Value}(h:Rel ι σ β v x)(j:v.cells.all V.cell=true):n_ ι σ v.cells x.cells.toList:=by
 obtain⟨h1,n⟩:=h.cells j;refine⟨by simp[h1],λi u g=>?_⟩;obtain⟨a,y,b,c⟩:=n i u g;exact⟨a,y,by simpa using b,c⟩
theorem n_.agg{ι:AF}{σ:Ab}{β:Nat->Nat}{cs:List V}{ws:List Value}(h:n_ ι σ cs ws)(q:cs.length=ws.length):Rel ι σ β (.agg cs) (.agg ws.toArray):=
 .agg cs ws q (λv b=>by obtain⟨i,hi⟩:=JH b;exact(h.2 i v hi).1)
  (λi v x b g=>by obtain⟨_,y,j,n⟩:=h.2 i v b;rw[j]at g;cases g;exact n β)
theorem n_.d_{ι:AF}{σ:Ab}{cs g:List V}{ws us:List Value}{o:Nat}(h:n_ ι σ cs ws)(k:n_ ι σ g us)(s:g.length=us.length)(n:o+g.length<=cs.length):n_ ι σ (Ag.d_ cs o g) (ws.take o++us++ws.drop (o+us.length)):=by
 have h1:=h.1;refine⟨by simp[GP];omega,λi v j=>?_⟩;rw[Wi cs o g i n]at j;by_cases hi:o<=i/\i<o+g.length
 ·rw[Ac hi]at j;obtain⟨a,x,b,c⟩:=k.2 _ v j;refine⟨a,x,?_,c⟩;rw[Cb,Da (by simp;omega),Bi (by simp;omega)];have:min o ws.length=o:=(by omega);simpa [this]using b
 rw[Ae hi]at j;obtain⟨a,x,b,c⟩:=h.2 i v j;refine⟨a,x,?_,c⟩;by_cases q:i<o
 ·rw[Cb,Bi (by simp;omega),IX,Ac q];exact b
 rw[Da (by simp;omega),LB];have e:o+us.length+(i-(ws.take o++us).length)=i:=by simp;omega
 rw[e];exact b
theorem SRel.mono{ι ι':AF}{σ σ':Ab}{β:Nat->Nat}{sl:List V}{tmps:Array Value}(h:SRel ι σ β sl tmps)(k:Keeps ι σ ι' σ'):SRel ι' σ' β sl tmps:=⟨h.1,λi=>(h.2 i).mono k λ_ _ _=>rfl⟩
theorem BRel.mono {ι ι':AF} {σ σ':Ab} {β:Nat->Nat} {bx:List (List V)} {w0 w w':World} (h:BRel ι σ β bx w0 w) (k:Keeps ι σ ι' σ')
 (g:∀(i:Nat) cs,bx[i]?=some cs->cs≠[]->w'.heap[β i]?=w.heap[β i]?) (hs:w.heap.size<=w'.heap.size)
 (q:∀(i:Nat) cs (l:Nat) (X_:Blk),bx[i]?=some cs->cs≠[]->σ'[l]?=some X_->X_.k≠.dead->(ι' l).b≠β i):BRel ι' σ' β bx w0 w' where
 cells i cs hi f9:=by
  obtain⟨arr,e,h1,t,s⟩:=h.cells i cs hi f9;refine⟨arr,e,by rw[g i cs hi f9];exact h1,t,λj v n=>?_⟩;obtain⟨a,x,b,c⟩:=s j v n;exact⟨a,x,b,λβ'=>(c β').cellMono k a⟩
 new i cs hi f9:=⟨(h.new i cs hi f9).1,HJ (h.new i cs hi f9).2 hs⟩
 apart:=h.apart
 heap:=q
theorem Nx(w:World)(ob:Obj)(k:Nat)(h:k<w.heap.size):(w.alloc ob).heap[k]?=w.heap[k]?:=heap_alloc_old w ob k h
theorem HRel.alloc{ι:AF}{σ:Ab}{w:World}(h:HRel ι σ w)(ob:Obj):HRel ι σ (w.alloc ob) where
 cells l X_ hl hk i v hv:=by
  obtain⟨a,x,b,c⟩:=h.cells l X_ hl hk i v hv;exact⟨a,x,by rw[Xb (w:=w) (Nx w ob _ (h.there l X_ hl hk))];exact b,c⟩
 own l X_ hl hk:=by
  obtain⟨a,b,arr,e,c,d⟩:=h.own l X_ hl hk;exact⟨a,b,arr,e,by rw[Nx w ob _ (h.there l X_ hl (by rw[hk];decide))];exact c,d⟩
 apart:=h.apart
 there l X_ hl hk:=by have:=h.there l X_ hl hk;simp;omega
theorem Step.alloc(ι:AF)(σ:Ab)(w:World)(ob:Obj):Step ι σ w ι σ (w.alloc ob):={ Step.refl ι σ w with frame:=λb g _=>Nx w ob b g,size:=by simp }
theorem BRel.alloc{ι:AF}{σ:Ab}{β:Nat->Nat}{bx:List (List V)}{w0 w:World}(h:BRel ι σ β bx w0 w)(ob:Obj):BRel ι σ β bx w0 (w.alloc ob):=h.mono (.refl _ _) (λi cs hi b=>Nx w ob _ (h.new i cs hi b).2) (by simp) h.heap
theorem BRel.drew{ι:AF}{σ:Ab}{β:Nat->Nat}{bx:List (List V)}{w0 w:World}(h:BRel ι σ β bx w0 w):BRel ι σ β bx w0 w.drew:=h.mono (.refl _ _) (λ_ _ _ _=>rfl) (BH _) h.heap
theorem R7(ι:AF)(σ:Ab)(p:Place)(X_:Blk):Keeps ι σ (upd ι σ.length p) (σ++[X_]) where
 place l b h:=DH _ _ _ _ (by have:=Bw h;omega)
 width l b h:=⟨b,by rw[Bi (Bw h)];exact h,rfl⟩
theorem Gf{σ:Ab}{X_ b:Blk}{l:Nat}(h:(σ++[X_])[l]?=some b):(l<σ.length/\σ[l]?=some b)\/(l=σ.length/\b=X_):=by
 by_cases g:l<σ.length
 ·rw[Bi g]at h;exact .inl ⟨g,h⟩
 rw[Da (by omega)]at h;have:l-σ.length=0:=by
  rcases dG (l-σ.length)with h0|h0
  ·exact h0
  rw[BO (by simp;omega)]at h;cases h
 rw[this]at h;simp at h;exact .inr ⟨by omega,h.symm⟩
theorem HRel.adopt {ι:AF} {σ:Ab} {w:World} (h:HRel ι σ w) {b:Nat} {arr:Array Value} {e:TypeId} {wd:Nat} {cs:List V} (u:w.heap[b]?=some (.cells arr e (0,0)))
 (j:∀(l:Nat) (X_:Blk),σ[l]?=some X_->X_.k≠.dead->(ι l).b≠b) (G:n_ ι σ cs arr.toList):HRel (upd ι σ.length ⟨b,0,arr.size⟩) (σ++[⟨.own,wd,cs⟩]) w:=by
 have K:=R7 ι σ ⟨b,0,arr.size⟩ ⟨.own,wd,cs⟩;have y:b<w.heap.size:=by
  rcases Bx b w.heap.size with q|q
  ·exact q
  rw[Array.getElem?_eq_none q]at u;cases u
 refine⟨λl X_ g s i v D=>?_,λl X_ g s=>?_,λl l' X_ C I g n s t=>?_,λl X_ g s=>?_⟩
 ·rcases Gf g with⟨z,g⟩|⟨rfl,rfl⟩
  ·rw[DH _ _ _ _ (by omega)];obtain⟨a,x,A,c⟩:=h.cells l X_ g s i v D;exact⟨a,x,A,λβ=>(c β).cellMono K a⟩
  rw[CB];obtain⟨a,x,A,c⟩:=G.2 i v D;refine⟨a,x,?_,λβ=>(c β).cellMono K a⟩;simp only[World.cell?,u];simpa using A
 ·rcases Gf g with⟨z,g⟩|⟨rfl,rfl⟩
  ·rw[DH _ _ _ _ (by omega)];exact h.own l X_ g s
  rw[CB];exact⟨rfl,by simpa using G.1,arr,e,u,rfl⟩
 ·rcases Gf g with⟨z,g⟩|⟨rfl,rfl⟩<;>rcases Gf n with⟨F,n⟩|⟨rfl,rfl⟩
  ·rw[DH _ _ _ _ (by omega),DH _ _ _ _ (by omega)];exact h.apart l l' X_ C I g n s t
  ·rw[DH _ _ _ _ (by omega),CB];exact j l X_ g (by rw[s];decide)
  ·rw[CB,DH _ _ _ _ (by omega)];exact λq=>j l' C n t q.symm
  exact absurd rfl I
 rcases Gf g with⟨z,g⟩|⟨rfl,rfl⟩
 ·rw[DH _ _ _ _ (by omega)];exact h.there l X_ g s
 rw[CB];exact y
theorem Sp {ι:AF} {σ:Ab} {β:Nat->Nat} {bx:List (List V)} {w0 w:World} {sl:List V} {tmps:Array Value} (h:HRel ι σ w) (B:BRel ι σ β bx w0 w) (S:SRel ι σ β sl tmps) (arr:Array Value) (e:TypeId) (wd:Nat) (cs:List V)
 (u:n_ ι σ cs arr.toList):
 HRel (upd ι σ.length ⟨w.heap.size,0,arr.size⟩) (σ++[⟨.own,wd,cs⟩]) (w.alloc (.cells arr e))/\BRel (upd ι σ.length ⟨w.heap.size,0,arr.size⟩) (σ++[⟨.own,wd,cs⟩]) β bx w0 (w.alloc (.cells arr e)) /\
 SRel (upd ι σ.length ⟨w.heap.size,0,arr.size⟩) (σ++[⟨.own,wd,cs⟩]) β sl tmps/\Step ι σ w (upd ι σ.length ⟨w.heap.size,0,arr.size⟩) (σ++[⟨.own,wd,cs⟩]) (w.alloc (.cells arr e)):=by
 have K:=R7 ι σ ⟨w.heap.size,0,arr.size⟩ ⟨.own,wd,cs⟩;refine⟨(h.alloc (.cells arr e)).adopt (heap_alloc_new w _) (λl X_ g n=>by have:=h.there l X_ g n;omega) u,?_,S.mono K,?_⟩
 ·refine B.mono K (λi cs hi q=>Nx w _ _ (B.new i cs hi q).2) (by simp) λi cs l X_ hi q g n=>?_;rcases Gf g with⟨y,g⟩|⟨rfl,rfl⟩
  ·rw[DH _ _ _ _ (by omega)];exact B.heap i cs l X_ hi q g n
  rw[CB];have:=(B.new i cs hi q).2;show w.heap.size≠β i;omega
 refine { keeps:=K,kinds:=λl X_ s g j=>?_,fresh:=λl s t g n=>?_,frame:=λb x _=>Nx w _ b x,size:=by simp,os:=rfl,output:=rfl,tape:=rfl }
 ·rw[Bi (Bw g),g]at j;cases j;exact .inl rfl
 rcases Gf g with⟨y,g⟩|⟨rfl,rfl⟩
 ·omega
 rw[CB];exact⟨rfl,.inl (BH _)⟩
theorem Hy{σ:Ab}{l j:Nat}{X_ b:Blk}(h:(σ.set l X_)[j]?=some b):(j=l/\b=X_/\l<σ.length)\/(j≠l/\σ[j]?=some b):=by
 rw[G3]at h;split at h
 ·rename_i e;split at h
  ·cases h;exact .inl ⟨e.symm,rfl,by assumption⟩
  cases h
 rename_i e;exact .inr ⟨λq=>e q.symm,h⟩
theorem WA(ι:AF)(σ:Ab)(l:Nat)(X_ g:Blk)(h:σ[l]?=some X_)(i:g.w=X_.w):Keeps ι σ ι (σ.set l g) where
 place _ _ _:=rfl
 width j b hj:=by
  by_cases e:l=j
  ·subst e;rw[h]at hj;cases hj;exact⟨g,by rw[G3,Ac rfl,Ac (Bw h)],i⟩
  exact⟨b,by rw[G3,Ae e];exact hj,rfl⟩
theorem HRel.kill{ι:AF}{σ:Ab}{w:World}(h:HRel ι σ w){l:Nat}{X_:Blk}(z:σ[l]?=some X_):HRel ι (σ.set l ⟨.dead,X_.w,[]⟩) w:=by
 have K:=WA ι σ l X_ ⟨.dead,X_.w,[]⟩ z rfl;refine⟨λj b g n i v y=>?_,λj b g n=>?_,λj u b t A g q n s=>?_,λj b g n=>?_⟩
 ·rcases Hy g with⟨_,rfl,_⟩|⟨_,g⟩
  ·exact absurd rfl n
  obtain⟨a,x,t,c⟩:=h.cells j b g n i v y;exact⟨a,x,t,λβ=>(c β).cellMono K a⟩
 ·rcases Hy g with⟨_,rfl,_⟩|⟨_,g⟩
  ·cases n
  exact h.own j b g n
 ·rcases Hy g with⟨_,rfl,_⟩|⟨_,g⟩
  ·cases n
  rcases Hy q with⟨_,rfl,_⟩|⟨_,q⟩
  ·exact absurd rfl s
  exact h.apart j u b t A g q n s
 rcases Hy g with⟨_,rfl,_⟩|⟨_,g⟩
 ·exact absurd rfl n
 exact h.there j b g n
theorem UR{ws:List Value}{cs:List V}(h:Gi ws cs=true)(ι:AF)(σ:Ab):n_ ι σ cs ws:=⟨by rw[RQ h];exact BH _,λi v b=>let ⟨x,hx,hc⟩:=jm h i v b;⟨iN hc,x,hx,λβ=>ZN hc ι σ β⟩⟩
def I8(P:Program)(t:TypeId)(b:List V):Bool:=
 match P.info? t with
 |some i=>(match i.zero with|some z=>Gi z.cells.toList b&&b.length == i.size|none=>false)
 |none=>false
theorem V5{P:Program}{t:TypeId}{b:List V}(h:I8 P t b=true):∃i z,P.info? t=some i/\i.zero=some z/\Gi z.cells.toList b=true/\b.length=i.size:=by
 unfold I8 at h;split at h
 ·rename_i i hi;split at h
  ·rename_i z g;simp at h;exact⟨i,z,hi,g,h.1,h.2⟩
  cases h
 cases h
def HA(b:Nat->Option (Nat×Nat)):List (Nat×Operand)->List (Nat×Nat×T_)->Bool
 |[],[]=>true|(i,x)::r,(off,size,y)::s=>b i == some (off,size)&&AE x y&&HA b r s|_,_=>false
theorem km(off:Nat):∀(g:List Value) (k:Nat) (b:Array Value) (j:Nat),off+k+g.length<=b.size ->
 ((g.zipIdx k).foldl (λcs (p:Value×Nat)=>cs.setIfInBounds (off+p.2) p.1) b).size=b.size /\
 ((g.zipIdx k).foldl (λcs (p:Value×Nat)=>cs.setIfInBounds (off+p.2) p.1) b)[j]?=if off+k<=j/\j<off+k+g.length then g[j-(off+k)]? else b[j]?
 |[],k,b,j,_=>by simp;omega
 | v :: g,k,b,j,h=>by
   have n:=km off g (k+1) (b.setIfInBounds (off+k) v) j (by simp at h ⊢;omega);simp only[List.zipIdx_cons,List.foldl_cons];refine⟨by rw[n.1];simp,?_⟩;rw[n.2];by_cases q:off+(k+1)<=j/\j<off+(k+1)+g.length
   ·rw[Ac q,Ac (by simp;omega)];have:j-(off+k)=j-(off+(k+1))+1:=(by omega);rw[this];simp
   rw[Ae q];by_cases i:j=off+k
   ·subst i;rw[Ac (by simp),Th,Ac rfl,Ac (by simp at h;omega)];simp
   rw[Ae (by simp only[A0];omega),Th,Ae (HB i)]
theorem al{ι:AF}{σ:Ab}{β:Nat->Nat}{sl:List V}{a:Act}(S:SRel ι σ β sl a.tmps)(g:Nat->Option (Nat×Nat)):∀(u:List (Nat×Operand)) (t:List (Nat×Nat×T_)) (b:Array Value) (cs n:List V),
 HA g u t=true->n_ ι σ cs b.toList->cs.length=b.size->DQ sl cs t=some n ->
 ∃arr,Instr.fill g b (u.map λp=>(p.1,a.eval p.2))=some arr/\n_ ι σ n arr.toList/\n.length=arr.size/\arr.size=b.size
 | [],[],b,cs,n,_,hr,hl,e=>by
   simp[DQ]at e;subst e;exact⟨b,rfl,hr,hl,rfl⟩
 |[],_::_,_,_,_,h,_,_,_=>by simp[HA]at h
 |_::_,[],_,_,_,h,_,_,_=>by simp[HA]at h
 | (i, x)::u,(off,size,y)::t,b,cs,n,h,hr,hl,e=>by
   simp only[HA,Ai,A7]at h;obtain⟨⟨h1,R⟩,O⟩:=h;simp only[DQ]at e;split at e
   ·rename_i M;obtain⟨c1,c2,C⟩:=M;have z:=BG R S;have D:=RN z C;obtain⟨Y,_⟩:=z.cells C;have L:((a.eval x).cells.zipIdx.foldl (λcs (c,j)=>cs.setIfInBounds (off+j) c) b)=(((a.eval x).cells.toList.zipIdx 0).foldl (λcs (p:Value×Nat)=>cs.setIfInBounds (off+p.2) p.1) b):=by
     rw[<- Array.foldl_toList];simp
    have A:=λj=>km off (a.eval x).cells.toList 0 b j (by simp;omega);have U:(((a.eval x).cells.toList.zipIdx 0).foldl (λcs (p:Value×Nat)=>cs.setIfInBounds (off+p.2) p.1) b).toList=b.toList.take off++(a.eval x).cells.toList++b.toList.drop (off+(a.eval x).cells.toList.length):=by
     apply IU;intro j;have:=(A j).2;rw[Array.getElem?_toList,this];simp only[E1];have Z:(a.eval x).cells.toList.length=size:=(by simp;omega);have hC:b.toList.length=b.size:=(by simp);by_cases s:off<=j/\j<off+(a.eval x).cells.toList.length
     ·rw[Ac s,Cb,Da (by simp;omega),Bi (by simp at s ⊢;omega)];have:min off b.size=off:=(by omega);simp[this]
     rw[Ae s];by_cases N:j<off
     ·rw[Cb,Bi (by simp;omega),IX,Ac N];simp
     rw[Da (by simp at s ⊢;omega),LB];have e:off+(a.eval x).cells.toList.length+(j-(b.toList.take off++(a.eval x).cells.toList).length)=j:=(by simp at s ⊢;omega);rw[e];simp
    have q:=(A 0).1;obtain⟨arr,J,I,G,F⟩:=al S g u t _ _ n O (by rw[U];exact hr.d_ D (by simp;omega) (by omega)) (by rw[GP,q];exact hl) e;refine⟨arr,?_,I,G,by rw[F,q]⟩;simp only[Cf,Instr.fill,h1];rw[Ae (by simp;omega),L];exact J
   cases e
theorem jC{P:Program}{w:World}:∀(b:List Field),(b.all λf=>(P.info? f.type).isSome)=true ->
 (b.mapM λf=>do pure (f.offset,<- sizeOf f.type):Sem (List (Nat×Nat))).run P w= .ok (b.map λf=>(f.offset,P.cellsOf f.type)) w
 |[],_=>by simp
 | f::b,h=>by
   simp only[FW,Ai]at h;obtain⟨i,hi⟩:=Option.isSome_iff_exists.1 h.1;have g:=jC (P:=P) (w:=w) b h.2;simp only[List.mapM_cons,D1,FV hi,Dm,Qj,g];simp[Program.cellsOf,hi]
def PH(P:Program)(b:Array Field)(i:Nat):Option (Nat×Nat):=(b[i]?).map λf=>(f.offset,P.cellsOf f.type)
theorem nz(z:List V)(n:Nat):(DD z n).length=n*z.length:=by
 induction n with
 |zero=>simp[DD]
 |succ n b=>simp[DD,b,N5];omega
theorem Zhb(z:List V)(n i:Nat)(h:i<n*z.length):(DD z n)[i]?=z[i % z.length]?:=by
 induction n generalizing i with
 |zero=>simp at h
 | succ n ih=>
   simp only[DD];by_cases hi:i<z.length
   ·rw[Bi hi,Nat.mod_eq_of_lt hi]
   rw[Da (by omega),ih _ (by rw[N5]at h;omega)];congr 1;rw[Nat.mod_eq_sub_mod (a:=i) (by omega)]
section
variable {P:Program} {o:Oper} {a:Act} {ι:AF} {β:Nat->Nat} {st:St} {w0 w:World} {v:V} {bx:List (List V)} {hp:Ab}
 (H:HRel ι st.hp w) (B:BRel ι st.hp β st.bx w0 w) (S:SRel ι st.hp β st.sl a.tmps) {ι0:AF} {σ0:Ab} (T:Step ι0 σ0 w0 ι st.hp w)
include H B S T
theorem ZfF {t:TypeId} {g:Array Field} {b:Array (Nat×Operand)} {n:List V} {q:List (Nat×Nat×T_)} (L:o.op= .build t b) (ht:P.underlying t=some (.struct g)) (A:(g.toList.all λf=>(P.info? f.type).isSome)=true)
 (J:I8 P t n=true) (y:HA (PH P g) b.toList q=true) (e:Af (.build n q) st=some (v,bx,hp)):Out P o a ι0 σ0 w0 w st.sl v bx hp:=by
 simp only[Af]at e;split at e
 ·simp only[Ca]at e;obtain⟨s,O,N⟩:=e;cases N;obtain⟨i,z,h1,M,D,R⟩:=V5 J;obtain⟨arr,I,G,F,_⟩:=al S (PH P g) b.toList q z.cells n s y (UR D _ _) (by rw[RQ D];simp) O;refine Out.pure H B S T (x:=.agg arr) ?_ (by have:=G.agg (β:=β) (by simpa using F);simpa using this) rfl;have u:=jC (P:=P) (w:=w) g.toList A;have j:(g.mapM λf=>do pure (f.offset,<- sizeOf f.type):Sem (Array (Nat×Nat))).run P w= .ok (g.map λf=>(f.offset,P.cellsOf f.type)) w:=by
   rw[Array.mapM_eq_mapM_toList];simp only[Sem.run_map,u,Dm];congr 1;apply Array.ext';simp
  have C:Instr.fill (λi=>(g.map λf=>(f.offset,P.cellsOf f.type))[i]?) z.cells (b.map λ(i,x)=>(i,a.eval x)).toList=some arr:=by
   have:(λi=>(g.map λf=>(f.offset,P.cellsOf f.type))[i]?)=PH P g:=by
    funext i;simp[PH]
   rw[this];simpa using I
  simp only[execOp,L,Instr.build,D1,S8 h1 M,Dm,C8 ht,j,C];rfl
 cases e
theorem Zd0{t:TypeId}{b:List V}(s:o.op= .alloc t)(q:I8 P t b=true)(e:Af (.allocH b) st=some (v,bx,hp)):Out P o a ι0 σ0 w0 w st.sl v bx hp:=by
 simp only[Af]at e;split at e
 ·rename_i y;cases e;obtain⟨inf,z,h1,x,u,A⟩:=V5 q;obtain⟨n,j,i,g⟩:=Sp H B S z.cells t 1 b (UR u _ _);refine⟨_,.pointer (some ⟨w.heap.size,0,none⟩),_,_,β,by simp[execOp,s,Instr.alloc,S8 h1 x,newVar,newRow],.inl rfl,n,j,i,?_,T.trans g⟩;have:=Rel.ptr (ι:=upd ι st.hp.length ⟨w.heap.size,0,z.cells.size⟩) (σ:=st.hp++[⟨.own,1,b⟩]) (β:=β) st.hp.length 0 ⟨.own,1,b⟩ (by simp) Nat.one_pos;rwa [CB]at this
 cases e
theorem ZgQ{t:TypeId}{n:Nat}{x:Operand}{b:T_}(z:o.op= .box t x)(y:AE x b=true)(e:Af (.boxH n b) st=some (v,bx,hp)):Out P o a ι0 σ0 w0 w st.sl v bx hp:=by
 have g:=BG y S;simp only[Af]at e;split at e
 ·rename_i A;cases e;have i:=RN g A.2;obtain⟨u,s,q,j⟩:=Sp H B S (a.eval x).cells t 1 _ i;refine⟨_,.pointer (some ⟨w.heap.size,0,none⟩),_,_,β,by simp[execOp,z,Instr.box,newVar,newRow],.inl rfl,u,s,q,?_,T.trans j⟩;have:=Rel.ptr (ι:=upd ι st.hp.length ⟨w.heap.size,0,(a.eval x).cells.size⟩) (σ:=st.hp++[⟨.own,1,(b.ev st.sl).cells⟩]) (β:=β) st.hp.length 0 ⟨.own,1,(b.ev st.sl).cells⟩ (by simp) Nat.one_pos;rwa [CB]at this
 cases e
theorem Zct {t el:TypeId} {b:Nat} {j:List V} {l c:Operand} {l':T_} (ho:o.op= .makeSlice t l c) (hw:I0 P t b=true) (ht:P.underlying t=some (.slice el)) (hz:I8 P el j=true) (hl:AE l l'=true) (hc:AE c l'=true)
 (e:Af (.mkSlice b j l') st=some (v,bx,hp)):Out P o a ι0 σ0 w0 w st.sl v bx hp:=by
 have J:=BG hl S;have L:=BG hc S;obtain⟨el',inf,z,g1,Z,Y,g4,U,_⟩:=We hw;rw[ht]at g1;cases g1;obtain⟨M,z',h1,R,O,h4⟩:=V5 hz;rw[Z]at h1;cases h1;rw[U]at R;cases R;simp only[Af]at e;split at e
 ·rename_i n F;rw[F]at J L;have I:=E0 J;have G:=E0 L;split at e
  ·rename_i u;obtain⟨c1,c2,c3,c4,c5⟩:=u;unfold AD at c5;have N:n<=1099511627776:=by
    have:n.toNat<=n.toNat*b:=Nat.le_mul_of_pos_right _ c3;omega
   have q:(execOp a.eval o).run P w= .ok (.value (.slice (some ⟨w.heap.size,0,none⟩) n.toNat n.toNat)) (w.alloc (.cells (madeCells z.cells (n.toNat*b)) el)):=by
    have:=run_make (P:=P) w t el inf z ht Z U .i64 .i64 n n c1 (Int.le_refl _) (by
     have h1:(inf.bytes:Int)*n<=128*n:=Int.mul_le_mul_of_nonneg_right (by omega) c1;omega) (by omega)
    simp[execOp,ho,I,G,this,Y]
   have g:j.length=b:=(by rw[h4,Y]);have y:z.cells.size=b:=(by have:=RQ O;simp at this;omega);have A:∀m,n_ ι st.hp (DD j m) (madeCells z.cells (m*b)).toList:=by
    intro m;refine⟨by rw[nz,g];simp[SH],λi v D=>?_⟩;have hi:i<m*b:=(by have:=(List.getElem?_eq_some_iff.1 D).1;rwa [nz,g]at this);rw[Zhb j m i (by rw[g];exact hi),g]at D;obtain⟨x,hx,s⟩:=jm O _ _ D;refine⟨iN s,x,?_,λβ=>ZN s ι st.hp β⟩;have h_:i % b<z.cells.size:=(by rw[y];exact HK _ c3);simp only[madeCells,y];have C:z.cells[i % b]?=some x:=(by simpa using hx);simp only[Array.toList_map,Array.toList_range,HI,List.getElem?_range hi,Cq];rw[getElem!_pos z.cells (i % b) h_];exact congrArg some (Array.getElem?_eq_some_iff.1 C).2
   split at e
   ·rename_i h0;cases e;subst h0;refine⟨_,_,_,ι,β,q,.inl rfl,H.alloc _,B.alloc _,S,?_,T.trans (Step.alloc _ _ _ _)⟩;exact Rel.b_ _
   cases e;obtain⟨q1,q2,q3,q4⟩:=Sp H B S (madeCells z.cells (n.toNat*b)) el b (DD j n.toNat) (A _);refine⟨_,_,_,_,β,q,.inl rfl,q1,q2,q3,?_,T.trans q4⟩;have:=Rel.slice (ι:=upd ι st.hp.length ⟨w.heap.size,0,(madeCells z.cells (n.toNat*b)).size⟩) (σ:=st.hp++[⟨.own,b,DD j n.toNat⟩]) (β:=β) st.hp.length 0 n.toNat n.toNat ⟨.own,b,DD j n.toNat⟩ (by simp) (BH _)
    (by rw[CB];simp[SH]) (by first|assumption|(simp only;omega))
   rwa [CB]at this
  cases e
 cases e
theorem oU{i:Nat}{cs:List V}{arr:Array Value}{el:TypeId}(hi:i<st.bx.length)(U:n_ ι st.hp cs arr.toList)(R:cs.length=arr.size):HRel ι st.hp (w.alloc (.cells arr el))/\BRel ι st.hp (upd β i w.heap.size) (CU st.bx i cs) w0 (w.alloc (.cells arr el))/\SRel ι st.hp (upd β i w.heap.size) (r_ i st.sl) a.tmps/\Step ι st.hp w ι st.hp (w.alloc (.cells arr el)) /\
 Rel ι st.hp (upd β i w.heap.size) (.box i 0) (.pointer (some ⟨w.heap.size,0,none⟩)):=by
 have D:∀(j:Nat) c,(CU st.bx i cs)[j]?=some c->(j=i/\c=cs)\/(j≠i/\st.bx[j]?=some c):=by
  intro j c h;rw[W3]at h;by_cases s:j=i
  ·rw[Ac ⟨s,hi⟩]at h;cases h;exact .inl ⟨s,rfl⟩
  rw[Ae (λq=>s q.1)]at h;exact .inr ⟨s,h⟩
 refine⟨H.alloc _,⟨λj c s b=>?_,λj c s b=>?_,λj F c c' A s I b y=>?_,λj c l X_ s b z L=>?_⟩,⟨by simpa using S.1,λn=>?_⟩,Step.alloc _ _ _ _,?_⟩
 ·rcases D j c s with⟨rfl,rfl⟩|⟨g,t⟩
  ·rw[CB];refine⟨arr,el,heap_alloc_new w _,R.symm,λk v G=>?_⟩;obtain⟨O,x,N,M⟩:=U.2 k v G;exact⟨O,x,by simpa using N,M⟩
  rw[DH _ _ _ _ g];obtain⟨arr',Z,h1,Y⟩:=B.cells j c t b;exact⟨arr',Z,by rw[Nx w _ _ (B.new j c t b).2];exact h1,Y⟩
 ·rcases D j c s with⟨rfl,rfl⟩|⟨g,t⟩
  ·rw[CB];exact⟨T.size,by simp⟩
  rw[DH _ _ _ _ g];have:=B.new j c t b;exact⟨this.1,by simp;omega⟩
 ·rcases D j c s with⟨rfl,rfl⟩|⟨g,t⟩<;>rcases D F c' I with⟨rfl,rfl⟩|⟨u,C⟩
  ·exact absurd rfl A
  ·rw[CB,DH _ _ _ _ u];have:=(B.new F c' C y).2;omega
  ·rw[CB,DH _ _ _ _ g];have:=(B.new j c t b).2;omega
  rw[DH _ _ _ _ g,DH _ _ _ _ u];exact B.apart j F c c' A t C b y
 ·rcases D j c s with⟨rfl,rfl⟩|⟨g,t⟩
  ·rw[CB];have:=H.there l X_ z L;omega
  rw[DH _ _ _ _ g];exact B.heap j c l X_ t b z L
 ·rw[iP];split
  ·exact .undef _
  rename_i J;refine(S.2 n).mono (.refl _ _) λj q G=>?_;rw[G]at J;simp[V.isBox]at J;exact DH _ _ _ _ (HB J)
 have:=Rel.box (ι:=ι) (σ:=st.hp) (β:=upd β i w.heap.size) i 0;rwa [CB]at this
theorem ZdG{t:TypeId}{i:Nat}{b:List V}(y:o.op= .alloc t)(x:I8 P t b=true)(e:Af (.e_ i b) st=some (v,bx,hp)):Out P o a ι0 σ0 w0 w (r_ i st.sl) v bx hp:=by
 simp only[Af]at e;split at e
 ·rename_i A;cases e;obtain⟨inf,z,h1,C,g,D⟩:=V5 x;obtain⟨u,s,q,n,j⟩:=oU H B S T (arr:=z.cells) (el:=t) A.1 (UR g _ _) (by rw[RQ g];simp);exact⟨_,_,_,ι,_,by simp[execOp,y,Instr.alloc,S8 h1 C,newVar,newRow],.inl rfl,u,s,q,j,T.trans n⟩
 cases e
theorem Zhd{t:TypeId}{i n:Nat}{x:Operand}{b:T_}(F:o.op= .box t x)(D:AE x b=true)(e:Af (.boxB i n b) st=some (v,bx,hp)):Out P o a ι0 σ0 w0 w (r_ i st.sl) v bx hp:=by
 have g:=BG D S;simp only[Af]at e;split at e
 ·rename_i G;obtain⟨I,c2,j⟩:=G;cases e;have s:=RN g j;obtain⟨q,_⟩:=g.cells j;obtain⟨C,A,z,y,u⟩:=oU H B S T (arr:=(a.eval x).cells) (el:=t) I s q.symm;exact⟨_,_,_,ι,_,by simp[execOp,F,Instr.box,newVar,newRow],.inl rfl,C,A,z,u,T.trans y⟩
 cases e
end
theorem Ws{w:World}{b:Nat}{arr arr':Array Value}{e:TypeId}(g:w.heap[b]?=some (.cells arr e (0,0))):(w.setRow b arr').heap[b]?=some (.cells arr' e (0,0)):=by
 simp[World.setRow,Array.getElem?_modify,g]
theorem Ju{w:World}{b k:Nat}{arr':Array Value}(h:k≠b):(w.setRow b arr').heap[k]?=w.heap[k]?:=by
 simp only[World.setRow,Array.getElem?_modify];rw[Ae (HB h)]
theorem Ml(w:World)(b:Nat)(arr':Array Value):(w.setRow b arr').heap.size=w.heap.size:=by simp[World.setRow]
theorem HRel.setRow{ι:AF}{σ:Ab}{w:World}(h:HRel ι σ w){b:Nat}{arr':Array Value}(g:∀(l:Nat)(X_:Blk),σ[l]?=some X_->X_.k≠.dead->(ι l).b≠b):HRel ι σ (w.setRow b arr') where
 cells l X_ hl hk i v hv:=by
  obtain⟨q,x,y,z⟩:=h.cells l X_ hl hk i v hv;exact⟨q,x,by rw[Xb (w:=w) (Ju (g l X_ hl hk))];exact y,z⟩
 own l X_ hl hk:=by
  obtain⟨p,q,arr,e,r,s⟩:=h.own l X_ hl hk;exact⟨p,q,arr,e,by rw[Ju (g l X_ hl (by rw[hk];decide))];exact r,s⟩
 apart:=h.apart
 there l X_ hl hk:=by rw[Ml];exact h.there l X_ hl hk
theorem HRel.ownCells{ι:AF}{σ:Ab}{w:World}(h:HRel ι σ w){l:Nat}{X_:Blk}(g:σ[l]?=some X_)(j:X_.k= .own):(ι l).o=0/\∃arr e,w.heap[(ι l).b]?=some (.cells arr e (0,0))/\arr.size=(ι l).c/\n_ ι σ X_.cs arr.toList:=by
 obtain⟨h1,u,arr,e,n,t⟩:=h.own l X_ g j;refine⟨h1,arr,e,n,t,by simp;omega,λi v s=>?_⟩;obtain⟨q,x,y,z⟩:=h.cells l X_ g (by rw[j];decide) i v s;refine⟨q,x,?_,z⟩;rw[h1,BF]at y;simp only[World.cell?,n]at y;simpa using y
theorem iu {P:Program} {w:World} {t:TypeId} {n:Nat} {inf:TypeInfo} (hi:P.info? t=some inf) (hs:inf.size=n) {b off:Nat} {arr:Array Value} {el:TypeId} (s:w.heap[b]?=some (.cells arr el (0,0))) {x:Value} (i:x.cells.size=n) (j:off+n<=arr.size)
 (h1:∀u∈x.cells.toList,u.oneCell'=true):
 (Instr.storeAt t (.pointer (some ⟨b,off,none⟩)) x).run P w= .ok () (w.setRow b (arr.toList.take off++x.cells.toList++arr.toList.drop (off+n)).toArray):=by
 have g:=run_storeCells_at P b off el x.cells.toList 0 arr w s (by simp;omega) h1;have q:x.cells.toList.length=n:=by simpa using i
 simp only[E1,q]at g;simp[Instr.storeAt,Instr.sureAddr,storeVar,FV hi,hs,i,g]
section
variable {P:Program} {o:Oper} {a:Act} {ι:AF} {β:Nat->Nat} {st:St} {w0 w:World} {v:V} {bx:List (List V)} {hp:Ab}
 (H:HRel ι st.hp w) (B:BRel ι st.hp β st.bx w0 w) (S:SRel ι st.hp β st.sl a.tmps) {ι0:AF} {σ0:Ab} (T:Step ι0 σ0 w0 ι st.hp w)
include H B S T
theorem Zb1 {t el:TypeId} {g n:Nat} {b:Array (Nat×Operand)} {F:List V} {G:List (Nat×Nat×T_)} {z:Value} {inf:TypeInfo} (M:o.op= .buildSlice t n b) (ht:P.underlying t=some (.slice el)) (hi:P.info? el=some inf)
 (hz:inf.zero=some z) (hs:inf.size=g) (N:n*g<=2^24) (C:Gi (madeCells z.cells (n*g)).toList F=true) (u:HA (λi=>some (i*g,g)) b.toList G=true)
 (h0:n=0->G=[]) (e:Af (.d5 g n F G) st=some (v,bx,hp)):Out P o a ι0 σ0 w0 w st.sl v bx hp:=by
 have I:F.length=n*g:=by rw[RQ C];simp[SH]
 have A:∀(arr:Array Value),Instr.fill (λi=>some (i*g,g)) (madeCells z.cells (n*g)) (b.toList.map λp=>(p.1,a.eval p.2))=some arr ->
  (execOp a.eval o).run P w= .ok (.value (.slice (some ⟨w.heap.size,0,none⟩) n n)) (w.alloc (.cells arr el)):=by
  intro arr j;have D:¬(n*g > 2^24):=(by omega);have s:(b.map λ(i,x)=>(i,a.eval x)).toList=b.toList.map λp=>(p.1,a.eval p.2):=(by simp);by_cases y:n*g=0
  ·have hm:madeCells z.cells (n*g)=#[]:=(by rw[y];simp[madeCells]);rw[hm]at j;simp only[execOp,M,Instr.buildSlice,D1,C8 ht,Dm,FV hi,hs,Ae D,s];simp only[y,AS,Qj,Array.range_zero',Array.map_empty,j];simp[newRow]
  have hm:(Array.range (n*g)).map (λi=>z.cells[i % z.cells.size]!)=madeCells z.cells (n*g):=rfl;simp only[execOp,M,Instr.buildSlice,D1,C8 ht,Dm,FV hi,hs,Ae D,s,Ae y,S8 hi hz,Qj,hm,j];simp[newRow]
 simp only[Af]at e;split at e
 ·rename_i D;cases e;have:=h0 D;subst this;have L:b.toList=[]:=by
   cases hq:b.toList with
   |nil=>rfl
   |cons x r=>rw[hq]at u;simp[HA]at u
  have J:=A (madeCells z.cells (n*g)) (by rw[L];rfl);subst D;refine⟨_,_,_,ι,β,J,.inl rfl,H.alloc _,B.alloc _,S,.b_ _,T.trans (Step.alloc _ _ _ _)⟩
 split at e
 ·simp only[Ca]at e;obtain⟨q,e1,e2⟩:=e;cases e2;obtain⟨arr,Z,Y,q3,U⟩:=al S (λi=>some (i*g,g)) b.toList G (madeCells z.cells (n*g)) F q u (UR C _ _) (by rw[I];simp[SH]) e1;have J:=A arr Z;obtain⟨r1,r2,R,O⟩:=Sp H B S arr el g q Y;refine⟨_,_,_,_,β,J,.inl rfl,r1,r2,R,?_,T.trans O⟩;have:=Rel.slice (ι:=upd ι st.hp.length ⟨w.heap.size,0,arr.size⟩) (σ:=st.hp++[⟨.own,g,q⟩]) (β:=β) st.hp.length 0 n n ⟨.own,g,q⟩ (by simp) (BH _)
   (by rw[CB];simp[U,SH]) (by first|assumption|(simp only;omega))
  rwa [CB]at this
 cases e
theorem ZeN {t:TypeId} {i n:Nat} {inf:TypeInfo} {x y:Operand} {x' R:T_} (ho:o.op= .store t x y) (hi:P.info? t=some inf) (hs:inf.size=n) (hx:AE x x'=true) (hy:AE y R=true)
 (e:Af (.V_ i n x' R) st=some (v,bx,hp)):Out P o a ι0 σ0 w0 w st.sl v bx hp:=by
 have rx:=BG hx S;have ry:=BG hy S;simp only[Af]at e;split at e
 ·rename_i j q hxe;rw[hxe]at rx;have ex:=SF rx;split at e
  ·rename_i hc;obtain⟨rfl,c1,c2,c3,c4⟩:=hc;cases e;have rc:=RN ry c4;obtain⟨s1,s2⟩:=ry.cells c4;have hone:∀u∈(a.eval y).cells.toList,u.oneCell'=true:=by
    intro u Z;obtain⟨k,U⟩:=JH Z;have h_:k<(R.ev st.sl).cells.length:=by
     have:=(List.getElem?_eq_some_iff.1 U).1;simp at this;omega
    obtain⟨g1,z,Y,g3⟩:=rc.2 k _ (A9 h_);rw[U]at Y;cases Y;exact(g3 β).oneCell g1
   have C:st.bx[i]?=some (AZ st.bx i):=by
    rw[SI,A9 c1];rfl
   by_cases O:AZ st.bx i=[]
   ·
    have hn0:n=0:=(by rw[O]at c3;simp at c3;omega);subst hn0;have hnil:(R.ev st.sl).cells=[]:=List.length_eq_zero_iff.1 c2;have hcz:(a.eval y).cells=#[]:=by
     apply Array.eq_empty_of_size_eq_zero;rw[s1,c2]
    have hsp:d_ (AZ st.bx i) q (R.ev st.sl).cells=AZ st.bx i:=(by rw[hnil,O];cases q<;>rfl);have hpb:CU st.bx i (AZ st.bx i)=st.bx:=by
     apply IU;intro m;rw[W3];split
     ·rename_i h;rw[h.1,C]
     rfl
    rw[hsp,hpb];refine⟨.skip,Go.undef,w,ι,β,?_,.inr ⟨rfl,rfl⟩,H,B,S,.undef _,T⟩;simp[execOp,ho,ex,Instr.storeAt,Instr.sureAddr,storeVar,FV hi,hs,hcz,storeCells]
   obtain⟨arr,el,N,hsz,J⟩:=B.cells i _ C O;have hrun:=iu (P:=P) hi hs N (x:=a.eval y) (off:=q) (by rw[s1,c2]) (by omega) hone;have hbn:=B.new i _ C O;have D:∀(l:Nat) (X_:Blk),st.hp[l]?=some X_->X_.k≠.dead->(ι l).b≠β i:=λl X_ hl U=>B.heap i _ l X_ C O hl U;refine⟨.skip,Go.undef,_,ι,β,by simp only[execOp,ho,ex,D1,hrun,Dm];rfl,.inr ⟨rfl,rfl⟩,H.setRow D,?_,S,.undef _,?_⟩
   ·have A:∀(m:Nat) c,(CU st.bx i (d_ (AZ st.bx i) q (R.ev st.sl).cells))[m]?=some c->(m=i/\c=d_ (AZ st.bx i) q (R.ev st.sl).cells)\/(m≠i/\st.bx[m]?=some c):=by
     intro m c h;rw[W3]at h;by_cases hm:m=i
     ·rw[Ac ⟨hm,c1⟩]at h;cases h;exact .inl ⟨hm,rfl⟩
     rw[Ae (λg=>hm g.1)]at h;exact .inr ⟨hm,h⟩
    have hrc:n_ ι st.hp (AZ st.bx i) arr.toList:=⟨by simp[hsz],λk u Z=>by
     obtain⟨g1,z,Y,g3⟩:=J k u Z;exact⟨g1,z,by simpa using Y,g3⟩⟩
    have L:=hrc.d_ rc (o:=q) (by simp[s1]) (by omega);have hL:(a.eval y).cells.toList.length=n:=(by simp;omega);rw[hL]at L;refine⟨λm c hm s=>?_,λm c hm s=>?_,λm m' c c' F hm hm' s M=>?_,λm c l X_ hm s hl U=>?_⟩
    ·rcases A m c hm with⟨rfl,rfl⟩|⟨G,I⟩
     ·refine⟨_,el,Ws N,by simp[GP];omega,λk u Z=>?_⟩;obtain⟨g1,z,Y,g3⟩:=L.2 k u Z;exact⟨g1,z,by simpa using Y,g3⟩
     obtain⟨arr',e',h1,h2⟩:=B.cells m c I s;exact⟨arr',e',by rw[Ju (B.apart m i c _ G I C s O)];exact h1,h2⟩
    ·rw[Ml];rcases A m c hm with⟨rfl,rfl⟩|⟨G,I⟩
     ·exact hbn
     exact B.new m c I s
    ·rcases A m c hm with⟨rfl,rfl⟩|⟨G,I⟩<;>rcases A m' c' hm' with⟨rfl,rfl⟩|⟨hmi',hg'⟩
     ·exact absurd rfl F
     ·exact B.apart _ _ _ _ F C hg' O M
     ·exact B.apart _ _ _ _ F I C s O
     exact B.apart m m' c c' F I hg' s M
    rcases A m c hm with⟨rfl,rfl⟩|⟨G,I⟩
    ·exact D l X_ hl U
    exact B.heap m c l X_ I s hl U
   ·
    exact { T with
     frame:=λb hb hf=>by rw[Ju (by omega)];exact T.frame b hb hf
     size:=by rw[Ml];exact T.size }
  cases e
 cases e
theorem Zeh {t:TypeId} {n:Nat} {inf:TypeInfo} {x y:Operand} {x' Z:T_} (ho:o.op= .store t x y) (hi:P.info? t=some inf) (hs:inf.size=n) (hx:AE x x'=true) (hy:AE y Z=true)
 (e:Af (.f8 n x' Z) st=some (v,bx,hp)):Out P o a ι0 σ0 w0 w st.sl v bx hp:=by
 have rx:=BG hx S;have ry:=BG hy S;simp only[Af]at e;split at e
 ·rename_i l q hxe;rw[hxe]at rx;obtain⟨_,ex⟩:=IK rx;split at e
  ·rename_i hc;obtain⟨c1,c2⟩:=hc;simp only[Ca]at e;obtain⟨h',e1,e2⟩:=e;cases e2;unfold wr at e1;split at e1
   ·rename_i X_ G;split at e1
    ·rename_i hk;obtain⟨k1,k2⟩:=hk;cases e1;have rc:=RN ry c2;obtain⟨s1,s2⟩:=ry.cells c2;have hone:∀u∈(a.eval y).cells.toList,u.oneCell'=true:=by
      intro u hu;obtain⟨k,hk⟩:=JH hu;have h_:k<(Z.ev st.sl).cells.length:=by
       have:=(List.getElem?_eq_some_iff.1 hk).1;simp at this;omega
      obtain⟨J,z,R,Y⟩:=rc.2 k _ (A9 h_);rw[hk]at R;cases R;exact(Y β).oneCell J
     obtain⟨z0,arr,el,I,hsz,hrc⟩:=H.ownCells G k1;have hle:=hrc.1;simp at hle;rw[z0,BF]at ex;have hrun:=iu (P:=P) hi hs I (x:=a.eval y) (off:=q) (by rw[s1,c1]) (by omega) hone;have hL:(a.eval y).cells.toList.length=n:=(by simp;omega);have N:=hrc.d_ rc (o:=q) (by simp[s1]) (by omega);rw[hL]at N;have K:=WA ι st.hp l X_ { X_ with cs:=d_ X_.cs q (Z.ev st.sl).cells } G rfl;have C:∀(j:Nat) (b:Blk),(st.hp.set l { X_ with cs:=d_ X_.cs q (Z.ev st.sl).cells })[j]?=some b->(j=l/\b={ X_ with cs:=d_ X_.cs q (Z.ev st.sl).cells })\/(j≠l/\st.hp[j]?=some b):=by
      intro j b A;rcases Hy A with⟨h1,h2,_⟩|h
      ·exact .inl ⟨h1,h2⟩
      exact .inr h
     have M:∀(j:Nat) (b:Blk),j≠l->st.hp[j]?=some b->b.k≠.dead->(ι j).b≠(ι l).b:=λj b D A s=>λg=>H.apart l j X_ b (HB D) G A k1 s g.symm;have U:((arr.toList.take q++(a.eval y).cells.toList++arr.toList.drop (q+n)).toArray).size=arr.size:=(by simp;omega);refine⟨.skip,Go.undef,w.setRow (ι l).b (arr.toList.take q++(a.eval y).cells.toList++arr.toList.drop (q+n)).toArray,ι,β,by simp only[execOp,ho,ex,D1,hrun,Dm];rfl,.inr ⟨rfl,rfl⟩,⟨λj b A s i u hu=>?_,λj b A s=>?_,λj j' b b' L A F s O=>?_,λj b A s=>?_⟩,?_,S.mono K,.undef _,?_⟩
     ·rcases C j b A with⟨rfl,rfl⟩|⟨D,A⟩
      ·obtain⟨J,z,R,Y⟩:=N.2 i u hu;refine⟨J,z,?_,λβ=>(Y β).cellMono K J⟩;rw[z0,BF];simp only[World.cell?,Ws I];simpa using R
      obtain⟨J,z,R,Y⟩:=H.cells j b A s i u hu;exact⟨J,z,by rw[Xb (w:=w) (Ju (M j b D A s))];exact R,λβ=>(Y β).cellMono K J⟩
     ·rcases C j b A with⟨rfl,rfl⟩|⟨D,A⟩
      ·exact⟨z0,by simp[GP];omega,_,el,Ws I,by rw[U,hsz]⟩
      obtain⟨J,R,arr',e',Y,g4⟩:=H.own j b A s;exact⟨J,R,arr',e',by rw[Ju (M j b D A (by rw[s];decide))];exact Y,g4⟩
     ·rcases C j b A with⟨rfl,rfl⟩|⟨D,hg⟩<;>rcases C j' b' F with⟨rfl,rfl⟩|⟨hjl',hg'⟩
      ·exact absurd rfl L
      ·exact H.apart _ _ _ _ L G hg' k1 O
      ·exact H.apart _ _ _ _ L hg G s (by rw[k1];decide)
      exact H.apart j j' b b' L hg hg' s O
     ·rw[Ml];rcases C j b A with⟨rfl,rfl⟩|⟨D,A⟩
      ·exact H.there _ _ G s
      exact H.there j b A s
     ·refine B.mono K (λi cs hi L=>Ju (λg=>B.heap i cs l X_ hi L G (by rw[k1];decide) g.symm)) (by rw[Ml];exact BH _) λi cs j b hi L A s=>?_;rcases C j b A with⟨rfl,rfl⟩|⟨D,A⟩
      ·exact B.heap i cs _ X_ hi L G s
      exact B.heap i cs j b hi L A s
     refine T.trans { keeps:=K,kinds:=λj b b' A F=>?_,fresh:=λj b' hle' A s=>?_,frame:=λb hb' hf=>Ju (λg=>hf l X_ G k1 g.symm),size:=by rw[Ml];exact BH _,os:=rfl,output:=rfl,tape:=rfl }
     ·rcases C j b' F with⟨rfl,rfl⟩|⟨D,F⟩
      ·rw[G]at A;cases A;exact .inl rfl
      rw[A]at F;cases F;exact .inl rfl
     rcases C j b' A with⟨rfl,rfl⟩|⟨D,A⟩
     ·have:=Bw G;omega
     have:=Bw A;omega
    cases e1
   cases e1
  cases e
 cases e
end
structure Src (P:Program) (w:World) (size:Nat) (x:Value) (n:Nat) (new:List Value):Prop where
 len:∀w',(Builtin.lenOf x).run P w'= .ok n w'
 cells:(Builtin.firstCells size n x).run P w= .ok new.toArray w
 cells':(Builtin.firstCells size n x).run P w.drew= .ok new.toArray w.drew
 size:new.length=n*size
section
variable {P:Program} {w:World} {t0 t1 ty el:TypeId} {inf:TypeInfo} {d1:TypeDesc}
 (ht:P.underlying t0=some (.slice el)) (hi:P.info? el=some inf) (ht1:P.underlying t1=some d1) (hd1:(∃e,d1= .slice e)\/d1= .string)
include ht hi ht1 hd1
theorem ZG{base:Option Addr}{sLen sCap:Nat}{x:Value}(hs:Src P w inf.size x 0 [])(b:sLen<=sCap):(Builtin.append_ #[t0,t1] ty #[.slice base sLen sCap,x]).run P w= .ok (.slice base sLen sCap) w:=by
 have g:∀a:Addr,(storeCells a ([]:List Value)).run P w= .ok () w:=λa=>by simp[storeCells]
 rcases hd1 with⟨i,rfl⟩|rfl<;>cases base<;>simp[Builtin.append_,C8 ht,C8 ht1,FV hi,hs.len,hs.cells,b,storeCells]
theorem ZbI {b off sLen sCap n:Nat} {x:Value} {g:List Value} {arr:Array Value} {e:TypeId} (hs:Src P w inf.size x n g) (s:w.heap[b]?=some (.cells arr e (0,0))) (i:sLen+n<=sCap)
 (q:off+sLen*inf.size+g.length<=arr.size) (h1:∀u∈g,u.oneCell'=true):
 (Builtin.append_ #[t0,t1] ty #[.slice (some ⟨b,off,none⟩) sLen sCap,x]).run P w=
  .ok (.slice (some ⟨b,off,none⟩) (sLen+n) sCap) (w.setRow b (arr.toList.take (off+sLen*inf.size)++g++arr.toList.drop (off+sLen*inf.size+g.length)).toArray):=by
 have j:=run_storeCells_at P b (off+sLen*inf.size) e g 0 arr w s (by simpa using q) h1;simp only[E1]at j;rcases hd1 with⟨t,rfl⟩|rfl<;>simp[Builtin.append_,C8 ht,C8 ht1,FV hi,hs.len,hs.cells,i,Ms,j]
theorem ZbF {z:Value} (t:inf.zero=some z) {base:Option Addr} {sLen sCap n:Nat} {x:Value} {b g:List Value} (hs:Src P w inf.size x n g) (i:(Builtin.firstCells inf.size sLen (.slice base sLen sCap)).run P w.drew= .ok b.toArray w.drew)
 (A:sCap<sLen+n) (u:sLen+n<=2^40) (s:inf.bytes<=128):
 (Builtin.append_ #[t0,t1] ty #[.slice base sLen sCap,x]).run P w=
  .ok (.slice (some ⟨w.heap.size,0,none⟩) (sLen+n) (grownCap w (sLen+n) sCap el)) (w.drew.alloc (.cells (b.toArray++g.toArray++Builtin.zeroCells z.cells (grownCap w (sLen+n) sCap el-(sLen+n))) el)):=by
 have y:¬(sLen+n<=sCap):=by omega
 have j:¬(9223372036854775807<((sLen:Int)+(n:Int))):=by omega
 have q:¬(281474976710656<Builtin.nextslicecap (sLen+n) sCap*inf.bytes):=by
  have h1:=nextslicecap_le A;have C:Builtin.nextslicecap (sLen+n) sCap*inf.bytes<=(2*(sLen+n))*128:=Nat.mul_le_mul h1 s;omega
 rcases hd1 with⟨D,rfl⟩|rfl
 all_goals
  simp[Builtin.append_,C8 ht,C8 ht1,FV hi,S8 hi t,dE hi,hs.len,hs.cells',i,y,j,q,Question.forced,newRow,grownCap];congr 2;apply Array.ext';simp[Cb]
end
theorem ZfS{P:Program}{ι:AF}{β:Nat->Nat}{st:St}{w:World}(H:HRel ι st.hp w){A k:Nat}{y:V}{D:Value}{g:List V}(F:Rel ι st.hp β y D)(e:DJ st.hp A y=some (g,k)):∃M:List Value,Src P w A D k M/\n_ ι st.hp g M/\g.length=k*A:=by
 have sl:∀(a:Addr) (n c:Nat) (cs:List V) (ws:List Value),D= .slice (some a) n c->ws.length=n*A->cs.length=n*A->(∀u,u∈cs->u.cell=true)->(∀(j:Nat) y,ws[j]?=some y->w.cell? (a.add j)=some y) ->
  (∀(j:Nat) u y,cs[j]?=some u->ws[j]?=some y->∀β',Rel ι st.hp β' u y)->Src P w A D n ws/\n_ ι st.hp cs ws:=by
  intro a n c cs ws ey h1 h2 h3 Y h5;have O:=RR (P:=P) Y;have N:=RR (P:=P) (w:=w.drew) (ad:=a) (cs:=ws) (λj v t=>Y j v t);rw[h1]at O N;subst ey;refine⟨⟨λw'=>rfl,O,N,h1⟩,by omega,λi v t=>?_⟩;have U:i<ws.length:=(by have:=(List.getElem?_eq_some_iff.1 t).1;omega);exact⟨h3 v (HL t),ws[i],A9 U,h5 i v _ t (A9 U)⟩
 unfold DJ at e;split at e
 ·cases e;obtain⟨b,rfl⟩:=P1 F;refine⟨[],⟨λw'=>rfl,?_,?_,by simp⟩,⟨BH _,by simp⟩,by simp⟩
  ·cases b<;>simp[Builtin.firstCells,loadCells,loadCellsFrom]
  cases b<;>simp[Builtin.firstCells,loadCells,loadCellsFrom]
 ·rename_i l q n;simp only[B9]at e;obtain⟨cs,e1,e2⟩:=e;cases e2;obtain⟨ws,L,G,q3,q4,Z⟩:=W7 H e1;obtain⟨X_,R,z⟩:=Ge F;rcases z with⟨c,C,_⟩|⟨rfl,b,C⟩
  ·obtain⟨r1,r2⟩:=sl _ k c _ ws C L G q3 q4 Z;exact⟨ws,r1,r2,G⟩
  have hws:ws=[]:=List.length_eq_zero_iff.1 (by rw[L];simp);have J:g=[]:=List.length_eq_zero_iff.1 (by rw[G];simp);subst C;subst J;refine⟨[],⟨λw'=>rfl,?_,?_,by simp⟩,⟨BH _,by simp⟩,by simp⟩
  ·cases b<;>simp[Builtin.firstCells,loadCells,loadCellsFrom]
  cases b<;>simp[Builtin.firstCells,loadCells,loadCellsFrom]
 ·rename_i s;split at e
  ·rename_i I;cases e;subst I;have C:=Qd F;subst C;have hz:(ByteArray.mk s.toArray).size=s.length:=XW;have x:(ByteArray.mk s.toArray).extract 0 s.length=⟨s.toArray⟩:=by
    apply ByteArray.ext;simp
   refine⟨s.map λb=>.int .u8 b.toNat,⟨λw'=>by simp[Builtin.lenOf,hz],?_,?_,by simp⟩,⟨by simp,λi v t=>?_⟩,by simp⟩
   ·simp[Builtin.firstCells,x]
   ·simp[Builtin.firstCells,x]
   simp only[HI,B9]at t;obtain⟨b,R,rfl⟩:=t;exact⟨rfl,.int .u8 b.toNat,by simp[R],λβ=>.int _ _⟩
  cases e
 cases e
section
variable {P:Program} {o:Oper} {a:Act} {ι:AF} {β:Nat->Nat} {st:St} {w0 w:World} {v:V} {bx:List (List V)} {hp:Ab}
 (H:HRel ι st.hp w) (B:BRel ι st.hp β st.bx w0 w) (S:SRel ι st.hp β st.sl a.tmps) {ι0:AF} {σ0:Ab} (T:Step ι0 σ0 w0 ι st.hp w)
include H B S T
theorem Xz {c : Call} {t0 t1:TypeId} {R:Nat} {x y:Operand} {x' y':T_} {d1:TypeDesc} (ho:o.op= .call c) (hc:c.callee= .builtin .append) (hargs:c.args=#[x,y]) (hts:c.argTypes=#[t0,t1]) (hw:I0 P t0 R=true)
 (ht1:P.underlying t1=some d1) (hd1:(∃e,d1= .slice e)\/d1= .string) (hx:AE x x'=true) (hy:AE y y'=true) (e:Af (.app R x' y') st=some (v,bx,hp)):Out P o a ι0 σ0 w0 w st.sl v bx hp:=by
 have rx:=BG hx S;have ry:=BG hy S;obtain⟨el,inf,z,g1,g2,g3,g4,g5,g6⟩:=We hw;have U:∀ {r:Value} {w':World},(Builtin.append_ #[t0,t1] o.type #[a.eval x,a.eval y]).run P w= .ok r w'->(execOp a.eval o).run P w= .ok (.value r) w':=by
  intro r w' h;rw[RU ho hc];simp[builtin,hargs,hts,h]
 simp only[Af]at e;split at e
 ·rename_i hw0;simp only[Ca]at e;obtain⟨⟨u,h'⟩,L,e2⟩:=e;cases e2;unfold app at L;split at L
  ·cases L
  rename_i C k hsrc;obtain⟨J,hS,hR,hlen⟩:=ZfS (P:=P) H ry hsrc;have hS':Src P w inf.size (a.eval y) k J:=(by rw[g3];exact hS);have hns:J.length=k*R:=hS.size;have grow:∀(base:Option Addr) (sLen sCap:Nat) (σ':Ab) (G:List V) (AH:List Value),a.eval x= .slice base sLen sCap->sCap<sLen+k->(sLen+k)*R<=2^40->G.length=sLen*R->AH.length=sLen*R ->
   (Builtin.firstCells inf.size sLen (.slice base sLen sCap)).run P w.drew= .ok AH.toArray w.drew->HRel ι σ' w->BRel ι σ' β st.bx w0 w->SRel ι σ' β st.sl a.tmps->Step ι0 σ0 w0 ι σ' w->n_ ι σ' G AH->n_ ι σ' C J ->
   Out P o a ι0 σ0 w0 w st.sl (.slice σ'.length 0 (sLen+k)) st.bx (σ'++[⟨.own,R,G++C⟩]):=by
   intro base sLen sCap σ' G AH M hg hsm ho1 ho2 hold H' B' S' T' hro hrn;have hle:sLen+k<=2^40:=CV (Nat.le_mul_of_pos_right _ hw0) hsm;have s:=ZbF (ty:=o.type) g1 g2 ht1 hd1 g5 hS' hold hg hle g4;rw[<- M]at s;have hcapge:=grownCap_ge w (sLen+k) sCap el;have hsz:(AH.toArray++J.toArray++Builtin.zeroCells z.cells (grownCap w (sLen+k) sCap el-(sLen+k))).size=grownCap w (sLen+k) sCap el*R:=by
    simp only[Array.size_append,size_zeroCells,g6,XW,ho2,hns];rw[<- DP,<- DP];congr 1;omega
   have hrc:n_ ι σ' (G++C) (AH.toArray++J.toArray++Builtin.zeroCells z.cells (grownCap w (sLen+k) sCap el-(sLen+k))).toList:=by
    refine⟨?_,λi u D=>?_⟩
    ·simp[ho1,ho2,hlen,hns]
    by_cases hi:i<G.length
    ·rw[Bi hi]at D;obtain⟨O,x1,N,Y⟩:=hro.2 i u D;refine⟨O,x1,?_,Y⟩;simp only[Array.toList_append,Cb];rw[Bi (by omega)];exact N
    rw[Da (by omega)]at D;have hi2:=(List.getElem?_eq_some_iff.1 D).1;obtain⟨O,x1,N,Y⟩:=hrn.2 _ u D;refine⟨O,x1,?_,Y⟩;simp only[Array.toList_append,Cb];rw[Da (by omega),Bi (by omega)];have:i-AH.length=i-G.length:=(by omega);rw[this];exact N
   obtain⟨r1,r2,r3,r4⟩:=Sp H'.drew B'.drew S' (AH.toArray++J.toArray++Builtin.zeroCells z.cells (grownCap w (sLen+k) sCap el-(sLen+k))) el R (G++C) hrc;refine⟨_,_,_,_,β,U s,.inl rfl,r1,r2,r3,?_,(T'.trans (Step.drew _ _ _)).trans r4⟩;have:=Rel.slice (ι:=upd ι σ'.length ⟨w.drew.heap.size,0,(AH.toArray++J.toArray++Builtin.zeroCells z.cells (grownCap w (sLen+k) sCap el-(sLen+k))).size⟩) (σ:=σ'++[⟨.own,R,G++C⟩]) (β:=β)
    σ'.length 0 (sLen+k) (grownCap w (sLen+k) sCap el) ⟨.own,R,G++C⟩ (by simp) hcapge (by rw[CB,hsz];simp) (by first|assumption|(simp only;omega))
   rwa [CB]at this
  have Z:k=0->J=[]:=λh=>List.length_eq_zero_iff.1 (by rw[hns,h];simp);split at L
  ·
   rename_i hxe;rw[hxe]at rx;obtain⟨b,M⟩:=P1 rx;split at L
   ·rename_i hk;cases L;subst hk;have hnn:=Z rfl;subst hnn;have s:=ZG (ty:=o.type) g1 g2 ht1 hd1 (base:=b) (sLen:=0) (sCap:=0) hS' (BH _);rw[<- M]at s;exact Out.pure H B S T (U s) rx rfl
   split at L
   ·rename_i hk t;cases L;unfold AD at t;have:=grow b 0 0 st.hp [] [] M (by omega) (by simpa using t) (by simp) (by simp) (by cases b<;>simp[Builtin.firstCells,loadCells,loadCellsFrom]) H B S T ⟨BH _,by simp⟩ hR;simpa using this
   cases L
  ·rename_i l q n hxe;rw[hxe]at rx;obtain⟨X_,hb,hcase⟩:=Ge rx;split at L
   ·
    rename_i hk;cases L;subst hk;have hnn:=Z rfl;subst hnn;rcases hcase with⟨cc,M,hn,_⟩|⟨rfl,b,M⟩
    ·have s:=ZG (ty:=o.type) g1 g2 ht1 hd1 (base:=some ⟨(ι l).b,(ι l).o+q,none⟩) hS' hn;rw[<- M]at s;exact Out.pure H B S T (U s) rx rfl
    have s:=ZG (ty:=o.type) g1 g2 ht1 hd1 (base:=b) (sLen:=0) (sCap:=0) hS' (BH _);rw[<- M]at s;exact Out.pure H B S T (U s) rx rfl
   rename_i hk;rw[hb]at L;simp only at L;split at L
   ·rename_i hcond;obtain⟨k1,k2,k3,k4,k5⟩:=hcond;cases L;unfold AD at k5;subst k3;subst k2;obtain⟨z0,arr,e0,harr,hsz,hrc⟩:=H.ownCells hb k1;have hrle:=hrc.1;simp only[Array.length_toList]at hrle;have K:=WA ι st.hp l X_ ⟨.dead,X_.w,[]⟩ hb rfl;have Hk:=H.kill hb;have Sk:=S.mono K;have Bk:BRel ι (st.hp.set l ⟨.dead,X_.w,[]⟩) β st.bx w0 w:=B.mono K (λ_ _ _ _=>rfl) (BH _) λi cs j b hi f9 A I=>by
     rcases Hy A with⟨_,rfl,_⟩|⟨_,A⟩
     ·exact absurd rfl I
     exact B.heap i cs j b hi f9 A I
    have Tk:Step ι0 σ0 w0 ι (st.hp.set l ⟨.dead,X_.w,[]⟩) w:=T.trans
     { keeps:=K
       kinds:=λj b b' A F=>by
        rcases Hy F with⟨rfl,rfl,_⟩|⟨_,F⟩
        ·rw[hb]at A;cases A;exact .inr ⟨k1,rfl⟩
        rw[A]at F;cases F;exact .inl rfl
       fresh:=λj b' hle' A I=>by
        rcases Hy A with⟨_,rfl,_⟩|⟨_,A⟩
        ·exact absurd rfl I
        have:=Bw A;omega
       frame:=λ_ _ _=>rfl
       size:=BH _
       os:=rfl
       output:=rfl
       tape:=rfl }
    have hcl:(X_.cs.take (n*X_.w)).length=n*X_.w:=(by simp;omega);have hrt:n_ ι (st.hp.set l ⟨.dead,X_.w,[]⟩) (X_.cs.take (n*X_.w)) (arr.toList.take (n*X_.w)):=by
     refine⟨by simp;omega,λi u D=>?_⟩;rw[IX]at D;split at D
     ·rename_i hi;obtain⟨O,x1,N,Y⟩:=hrc.2 i u D;exact⟨O,x1,by rw[IX,Ac hi];exact N,λβ=>(Y β).cellMono K O⟩
     cases D
    have hRk:=hR.mono K;rcases hcase with⟨cc,M,hn,hcc⟩|⟨rfl,b,M⟩
    ·rw [z0]at M;simp only[BF]at M hcc;by_cases t:n+k<=cc
     ·
      have hfit:0+n*inf.size+J.length<=arr.size:=by
       rw[g3,hns,hsz,BF,<- DP];exact CV (G4 _ t) hcc
      have hone:∀u∈J,u.oneCell'=true:=by
       intro u D;obtain⟨i,hi⟩:=JH D;have h_:i<C.length:=(by have:=(List.getElem?_eq_some_iff.1 hi).1;omega);obtain⟨O,x1,N,Y⟩:=hR.2 i _ (A9 h_);rw[hi]at N;cases N;exact(Y β).oneCell O
      have s:=ZbI (ty:=o.type) g1 g2 ht1 hd1 hS' harr t hfit hone;rw[<- M]at s;rw[g3,BF]at s;have hfree:∀(j:Nat) (b:Blk),(st.hp.set l ⟨.dead,X_.w,[]⟩)[j]?=some b->b.k≠.dead->(ι j).b≠(ι l).b:=by
       intro j b A I;rcases Hy A with⟨_,rfl,_⟩|⟨hjl,A⟩
       ·exact absurd rfl I
       exact λg=>H.apart l j X_ b (HB hjl) hb A k1 I g.symm
      have hsz2:((arr.toList.take (n*X_.w)++J++arr.toList.drop (n*X_.w+J.length)).toArray).size=arr.size:=by
       rw[g3,BF]at hfit;simp;omega
      have hrc2:n_ ι (st.hp.set l ⟨.dead,X_.w,[]⟩) (X_.cs.take (n*X_.w)++C) (arr.toList.take (n*X_.w)++J++arr.toList.drop (n*X_.w+J.length)).toArray.toList:=by
       have hal:(arr.toList.take (n*X_.w)).length=n*X_.w:=(by simp;omega);refine⟨by simp;omega,λi u D=>?_⟩;by_cases hi:i<(X_.cs.take (n*X_.w)).length
       ·rw[Bi hi]at D;obtain⟨O,x1,N,Y⟩:=hrt.2 i u D;refine⟨O,x1,?_,Y⟩;simp only[Cb];rw[Bi (by omega)];exact N
       rw[Da (by omega)]at D;have hi2:=(List.getElem?_eq_some_iff.1 D).1;obtain⟨O,x1,N,Y⟩:=hRk.2 _ u D;refine⟨O,x1,?_,Y⟩;simp only[Cb];rw[Da (by omega),Bi (by omega),hal];rw[hcl]at N;exact N
      have Had:=(Hk.setRow (arr':=(arr.toList.take (n*X_.w)++J++arr.toList.drop (n*X_.w+J.length)).toArray) hfree).adopt (wd:=X_.w) (Ws harr) hfree hrc2;have KP:=R7 ι (st.hp.set l ⟨.dead,X_.w,[]⟩) ⟨(ι l).b,0,(arr.toList.take (n*X_.w)++J++arr.toList.drop (n*X_.w+J.length)).toArray.size⟩ ⟨.own,X_.w,X_.cs.take (n*X_.w)++C⟩;have hslen:(st.hp.set l ⟨.dead,X_.w,[]⟩).length=st.hp.length:=(by simp);refine⟨_,_,_,_,β,U s,.inl rfl,Had,?_,Sk.mono KP,?_,?_⟩
      ·refine Bk.mono KP (λi cs hi f9=>Ju (λg=>B.heap i cs l X_ hi f9 hb (by rw[k1];decide) g.symm)) (by rw[Ml];exact BH _) λi cs j b hi f9 A I=>?_;rcases Gf A with⟨h_,A⟩|⟨rfl,rfl⟩
       ·rw[DH _ _ _ _ (by omega)];exact Bk.heap i cs j b hi f9 A I
       rw[CB];exact B.heap i cs l X_ hi f9 hb (by rw[k1];decide)
      ·have:=Rel.slice (ι:=upd ι (st.hp.set l ⟨.dead,X_.w,[]⟩).length ⟨(ι l).b,0,(arr.toList.take (n*X_.w)++J++arr.toList.drop (n*X_.w+J.length)).toArray.size⟩)
        (σ:=(st.hp.set l ⟨.dead,X_.w,[]⟩)++[⟨.own,X_.w,X_.cs.take (n*X_.w)++C⟩]) (β:=β) (st.hp.set l ⟨.dead,X_.w,[]⟩).length 0 (n+k) cc ⟨.own,X_.w,X_.cs.take (n*X_.w)++C⟩ (by rw[Da (BH _)];simp) t
        (by rw[CB];simp only[hsz2,hsz];omega) (by first|assumption|(simp only;omega))
       rw[CB]at this;simpa [hslen]using this
      refine T.trans { keeps:=K.trans KP,kinds:=λj b b' A F=>?_,fresh:=λj b' hle' A I=>?_,frame:=λb hb' hf=>Ju (λg=>hf l X_ hb k1 g.symm),size:=by rw[Ml];exact BH _,os:=rfl,output:=rfl,tape:=rfl }
      ·rcases Gf F with⟨h_,F⟩|⟨rfl,rfl⟩
       ·rcases Hy F with⟨rfl,rfl,_⟩|⟨_,F⟩
        ·rw[hb]at A;cases A;exact .inr ⟨k1,rfl⟩
        rw[A]at F;cases F;exact .inl rfl
       have:=Bw A;omega
      rcases Gf A with⟨h_,A⟩|⟨rfl,rfl⟩
      ·omega
      rw[CB];exact⟨rfl,.inr ⟨l,X_,hb,k1,rfl⟩⟩
     ·
      have hol:(arr.toList.take (n*X_.w)).length=n*X_.w:=(by simp;omega);have hload:∀w':World,w'.heap=w.heap->(Builtin.firstCells inf.size n (.slice (some ⟨(ι l).b,0,none⟩) n cc)).run P w'= .ok (arr.toList.take (n*X_.w)).toArray w':=by
       intro w' hw';have:=RR (P:=P) (w:=w') (ad:=⟨(ι l).b,0,none⟩) (cs:=arr.toList.take (n*X_.w)) (λj u D=>by
        rw[Ms,BF];rw[IX]at D;split at D
        ·simp only[World.cell?,hw',harr];simpa using D
        cases D)
       rw[hol]at this;simp only[Builtin.firstCells,g3];exact this
      have:=grow _ n cc (st.hp.set l ⟨.dead,X_.w,[]⟩) (X_.cs.take (n*X_.w)) (arr.toList.take (n*X_.w)) M (by omega) k5 hcl hol (hload _ rfl) Hk Bk Sk Tk hrt hRk;simpa using this
    ·
     have h0:(X_.cs.take (0*X_.w))=[]:=(by simp);have:=grow b 0 0 (st.hp.set l ⟨.dead,X_.w,[]⟩) [] [] M (by omega) (by simpa using k5) (by simp) (by simp) (by cases b<;>simp[Builtin.firstCells,loadCells,loadCellsFrom]) Hk Bk Sk Tk ⟨BH _,by simp⟩ hRk;simpa [h0]using this
   cases L
  cases L
 cases e
end
def isSome(o:Option TypeDesc):Bool:=match o with|some _=>true|none=>false
def MZ(o:Option TypeDesc):Bool:=match o with|some .string=>true|_=>false
def cg(o:Option TypeDesc):Bool:=match o with|some .bool=>true|_=>false
def eA(o:Option TypeDesc):Bool:=match o with|some (.interface _)=>true|_=>false
def Yc(o:Option TypeDesc)(k:IntKind):Bool:=match o with|some (.int k')=>k' == k|_=>false
def TD(o:Option TypeDesc):Bool:=match o with|some (.slice _)=>true|_=>false
def bN(P:Program)(t:TypeId)(f off:Nat):Bool:=MD P t f off none||(match P.underlying t with|some (.struct fs)=>(match fs[f]? with|some g=>MD P t f off (some (P.cellsOf g.type))|none=>false)|_=>false)
def bR(P:Program)(t:TypeId)(b:Array (Nat×Operand))(g:List V)(i:List (Nat×Nat×T_)):Bool:=
 match P.underlying t with
 |some (.struct fs)=>(fs.toList.all λf=>(P.info? f.type).isSome)&&I8 P t g&&HA (PH P fs) b.toList i
 |_=>false
def eF(P:Program)(t:TypeId)(n:Nat)(b:Array (Nat×Operand))(w:Nat)(j:List V)(g:List (Nat×Nat×T_)):Bool:=
 match P.underlying t with
 | some (.slice e)=>(match P.info? e with
   | some i=>(match i.zero with
     |some z=>i.size == w&&decide (n*w<=2^24)&&Gi (madeCells z.cells (n*w)).toList j&&HA (λi=>some (i*w,w)) b.toList g&&(n != 0||g.isEmpty)
     |none=>false)
   |none=>false)
 |_=>false
def p8(P:Program)(t:TypeId)(w:Nat)(b:List V):Bool:=I0 P t w&&(match P.underlying t with|some (.slice e)=>I8 P e b|_=>false)
def Xu(P:Program)(t:TypeId)(n:Nat):Bool:=match P.info? t with|some i=>i.size == n|none=>false
def et(P:Program)(t:TypeId)(n:Nat):Bool:=P.eqGuardType P.depth t == false&&(match LZ P 50 t with|some (some m)=>m == n|_=>false)
def oq(P:Program)(s d:TypeId):Bool:=MZ (P.underlying d)&&(match P.underlying s with|some (.slice e)=>Yc (P.underlying e) .u8|_=>false)
def Li(P:Program)(b:Builtin)(args:List Operand)(g:List TypeId):o_->Bool
 |.len y=>(match b,args,g with|.len,[x],[t]=>TD (P.underlying t)&&AE x y|_,_,_=>false)
 |.lenT y=>(match b,args,g with|.len,[x],[t]=>MZ (P.underlying t)&&AE x y|_,_,_=>false)
 |.minI x' y'=>(match b,args with|.min,[x,y]=>AE x x'&&AE y y'|_,_=>false)
 |.maxI x' y'=>(match b,args with|.max,[x,y]=>AE x x'&&AE y y'|_,_=>false)
 |.app w x' y'=>(match b,args,g with|.append,[x,y],[t0,t1]=>I0 P t0 w&&(TD (P.underlying t1)||MZ (P.underlying t1))&&AE x x'&&AE y y'|_,_,_=>false)
 |.appN w x' y'=>(match b,args,g with|.append,[x,y],[t0,t1]=>I0 P t0 w&&(TD (P.underlying t1)||MZ (P.underlying t1))&&AE x x'&&AE y y'|_,_,_=>false)
 |_=>false
def Fa(P:Program):Op->o_->Bool
 |.move x,.mv y=>AE x y|.assign x,.mv y=>AE x y|.nilCheck x,.z_ y=>AE x y|.pick c x y,.pick c' x' y'=>AE c c'&&AE x x'&&AE y y'|.alloc t,.e_ _ zs=>I8 P t zs|.alloc t,.allocH zs=>I8 P t zs|.box _ x,.boxB _ _ y=>AE x y|.box _ x,.boxH _ y=>AE x y|.build t parts,.build zs ps=>bR P t parts zs ps|.makeSlice t l c,.mkSlice w zs y=>p8 P t w zs&&AE l y&&AE c y|.buildSlice t n parts,.d5 w m zs ps=>n == m&&eF P t n parts w zs ps|.load t x,.d7 _ n y=>HN P t n&&AE x y|.load t x,.i5 n y=>HN P t n&&AE x y|.load t x,.loadX _ _ n y=>HN P t n&&AE x y|.store t x y,.V_ _ n x' y'=>Xu P t n&&AE x x'&&AE y y'|.store t x y,.f8 n x' y'=>Xu P t n&&AE x x'&&AE y y'|.binOp op _ x y _,.bin op' x' y'=>op == op'&&AE x x'&&AE y y'|.binOp op t x y _,.eqB neg x' y'=>op == (if neg then .neq else .eql)&&cg (P.underlying t)&&AE x x'&&AE y y'|.binOp op t x y _,.eqN neg x' y'=>op == (if neg then .neq else .eql)&&eA (P.underlying t)&&AE x x'&&AE y y'|.binOp op t x y _,.eqA n neg x' y'=>op == (if neg then .neq else .eql)&&et P t n&&AE x x'&&AE y y'|.unOp op _ x,.un op' y=>op == op'&&AE x y|.convert s d x,.conv k y=>isSome (P.underlying s)&&Yc (P.underlying d) k&&AE x y|.convert s d x,.bstr y=>oq P s d&&AE x y|.slice t x lo hi none,.slice w y lo' hi'=>I0 P t w&&AE x y&&Hn lo lo'&&Hn hi hi'|.slice t x lo hi none,.substr y lo' hi'=>MZ (P.underlying t)&&AE x y&&Hn lo lo'&&Hn hi hi'|.fieldAddr t x f,.f5 off y=>bN P t f off&&AE x y|.field t x f,.field off n y=>MD P t f off n&&AE x y|.indexAddr t x i,.p_ w x' i'=>I0 P t w&&AE x x'&&AE i i'|.index t x i,.index x' i'=>MZ (P.underlying t)&&AE x x'&&AE i i'|.extract x i,.extract y j=>i == j&&AE x y|.call c,ao=>(match c.callee with|.builtin b=>Li P b c.args.toList c.argTypes.toList ao|_=>false)
 |_,_=>false
theorem PK{o:Option TypeDesc}(h:MZ o=true):o=some .string:=by unfold MZ at h;split at h<;>first|rfl|cases h
theorem Zbk{o:Option TypeDesc}(h:cg o=true):o=some .bool:=by unfold cg at h;split at h<;>first|rfl|cases h
theorem Zdl{o:Option TypeDesc}(h:eA o=true):∃b,o=some (.interface b):=by unfold eA at h;split at h<;>first|exact⟨_,rfl⟩|cases h
theorem jK{o:Option TypeDesc}{k:IntKind}(h:Yc o k=true):o=some (.int k):=by unfold Yc at h;split at h<;>first|(simp at h;rw[h])|cases h
theorem aC{o:Option TypeDesc}(h:TD o=true):∃e,o=some (.slice e):=by unfold TD at h;split at h<;>first|exact⟨_,rfl⟩|cases h
theorem ZbO{o:Option TypeDesc}(h:isSome o=true):o.isSome=true:=by unfold isSome at h;split at h<;>first|rfl|cases h
theorem Za0{P:Program}{t:TypeId}{f off:Nat}(h:bN P t f off=true):∃n,MD P t f off n=true:=by
 unfold bN at h;rw[B7]at h;rcases h with h|h
 ·exact⟨_,h⟩
 split at h
 ·split at h
  ·exact⟨_,h⟩
  cases h
 cases h
theorem Zbf{P:Program}{t:TypeId}{b:Array (Nat×Operand)}{i:List V}{j:List (Nat×Nat×T_)}(h:bR P t b i j=true):∃g,P.underlying t=some (.struct g)/\(g.toList.all λf=>(P.info? f.type).isSome)=true/\I8 P t i=true/\HA (PH P g) b.toList j=true:=by
 unfold bR at h;split at h
 ·rename_i g n;simp only[Ai]at h;exact⟨g,n,h.1.1,h.1.2,h.2⟩
 cases h
theorem ZcR{P:Program}{t:TypeId}{n w:Nat}{b:Array (Nat×Operand)}{q:List V}{j:List (Nat×Nat×T_)}(h:eF P t n b w q j=true):∃e i z,P.underlying t=some (.slice e)/\P.info? e=some i/\i.zero=some z/\i.size=w/\n*w<=2^24/\Gi (madeCells z.cells (n*w)).toList q=true/\HA (λi=>some (i*w,w)) b.toList j=true/\(n=0->j=[]):=by
 unfold eF at h;split at h
 ·rename_i e u;split at h
  ·rename_i i hi;split at h
   ·rename_i z s;simp only[Ai,A7,Av,B7,SB,GZ,List.isEmpty_iff]at h;obtain⟨⟨⟨⟨h1,C⟩,A⟩,y⟩,x⟩:=h;exact⟨e,i,z,u,hi,s,h1,C,A,y,λh0=>x.resolve_left (λg=>g h0)⟩
   cases h
  cases h
 cases h
theorem iY{P:Program}{t:TypeId}{n:Nat}(h:Xu P t n=true):∃i,P.info? t=some i/\i.size=n:=by
 unfold Xu at h;split at h
 ·rename_i i hi;exact⟨i,hi,by simpa using h⟩
 cases h
theorem Zc5{P:Program}{t:TypeId}{n:Nat}(h:et P t n=true):P.eqGuardType P.depth t=false/\LZ P 50 t=some (some n):=by
 unfold et at h;simp only[Ai,A7]at h;refine⟨h.1,?_⟩;have b:=h.2;split at b
 ·rename_i m hm;simp at b;subst b;exact hm
 cases b
theorem dy{op:BinOp}{b:Bool}(h:(op == (if b then .neq else .eql))=true):op=if b then .neq else .eql:=by simpa using h
section
variable {P:Program} {o:Oper} {a:Act} {ι:AF} {β:Nat->Nat} {st:St} {w0 w:World} {v:V} {bx:List (List V)} {hp:Ab}
 (H:HRel ι st.hp w) (B:BRel ι st.hp β st.bx w0 w) (S:SRel ι st.hp β st.sl a.tmps) {ι0:AF} {σ0:Ab} (T:Step ι0 σ0 w0 ι st.hp w)
include H B S T
theorem mh{I:o_}(g:Fa P o.op I=true)(e:Af I st=some (v,bx,hp)):Out P o a ι0 σ0 w0 w (I.clears st.sl) v bx hp:=by
 unfold Fa at g;split at g
 ·rename_i j;exact pP H B S T (.inl j) g e
 ·rename_i j;exact pP H B S T (.inr j) g e
 ·rename_i j;exact ZfT H B S T j g e
 ·rename_i j;simp only[Ai]at g;exact ZhM H B S T j g.1.1 g.1.2 g.2 e
 ·rename_i j;exact ZdG H B S T j g e
 ·rename_i j;exact Zd0 H B S T j g e
 ·rename_i j;exact Zhd H B S T j g e
 ·rename_i j;exact ZgQ H B S T j g e
 ·rename_i j;obtain⟨R,h1,s,A,G⟩:=Zbf g;exact ZfF H B S T j h1 s A G e
 ·rename_i j;simp only[Ai,p8]at g;obtain⟨⟨⟨h1,s⟩,A⟩,G⟩:=g;split at s
  ·rename_i el t;exact Zct H B S T j h1 t s A G e
  cases s
 ·rename_i j;simp only[Ai,A7]at g;obtain⟨h0,g⟩:=g;subst h0;obtain⟨el,i,z,h1,s,A,G,N,M,L,J⟩:=ZcR g;exact Zb1 H B S T j h1 s A G N M L J e
 ·rename_i j;simp only[Ai]at g;exact Zgw H B S T j g.1 g.2 e
 ·rename_i j;simp only[Ai]at g;exact lK H B S T j g.1 g.2 e
 ·rename_i j;simp only[Ai]at g;exact lK H B S T j g.1 g.2 (WM e).2
 ·rename_i j;simp only[Ai]at g;obtain⟨i,h1,s⟩:=iY g.1.1;exact ZeN H B S T j h1 s g.1.2 g.2 e
 ·rename_i j;simp only[Ai]at g;obtain⟨i,h1,s⟩:=iY g.1.1;exact Zeh H B S T j h1 s g.1.2 g.2 e
 ·rename_i j;simp only[Ai,A7]at g;obtain⟨⟨rfl,h1⟩,s⟩:=g;exact Zh5 H B S T j h1 s e
 ·rename_i j;simp only[Ai]at g;exact Zib H B S T j (dy g.1.1.1) (Zbk g.1.1.2) g.1.2 g.2 e
 ·rename_i j;simp only[Ai]at g;obtain⟨O,h⟩:=Zdl g.1.1.2;exact Zic H B S T j (dy g.1.1.1) h g.1.2 g.2 e
 ·rename_i j;simp only[Ai]at g;obtain⟨h1,s⟩:=Zc5 g.1.1.2;exact Ziz H B S T j (dy g.1.1.1) h1 s g.1.2 g.2 e
 ·rename_i j;simp only[Ai,A7]at g;obtain⟨rfl,h1⟩:=g;exact Zja H B S T j h1 e
 ·rename_i j;simp only[Ai]at g;exact ZhZ H B S T j (ZbO g.1.1) (jK g.1.2) g.2 e
 ·rename_i j;simp only[Ai,oq]at g;obtain⟨⟨h1,s⟩,A⟩:=g;split at s
  ·rename_i el t;exact Zhs H B S T j t (jK s) (PK h1) A e
  cases s
 ·rename_i j;simp only[Ai]at g;exact ZfZ H B S T j g.1.1.1 g.1.1.2 g.1.2 g.2 e
 ·rename_i j;simp only[Ai]at g;exact Zds H B S T j (PK g.1.1.1) g.1.1.2 g.1.2 g.2 e
 ·rename_i j;simp only[Ai]at g;obtain⟨n,h⟩:=Za0 g.1;exact ZeZ H B S T j h g.2 e
 ·rename_i j;simp only[Ai]at g;exact Zge H B S T j g.1 g.2 e
 ·rename_i j;simp only[Ai]at g;exact Zd9 H B S T j g.1.1 g.1.2 g.2 e
 ·rename_i j;simp only[Ai]at g;exact Zfp H B S T j (PK g.1.1) g.1.2 g.2 e
 ·rename_i j;simp only[Ai,A7]at g;obtain⟨rfl,h1⟩:=g;exact ZcZ H B S T j h1 e
 ·rename_i j;split at g
  ·rename_i b y;have q:∀ {α:Type} {x:Array α} {l:List α},x.toList=l->x=l.toArray:=λh=>(by rw[<- h]);unfold Li at g;split at g
   ·split at g
    ·rename_i h1 s;simp only[Ai]at g;obtain⟨el,t⟩:=aC g.1;exact Zhz H B S T j y (q h1) (q s) t g.2 e
    cases g
   ·split at g
    ·rename_i h1 s;simp only[Ai]at g;exact ZgJ H B S T j y (q h1) (q s) (PK g.1) g.2 e
    cases g
   ·split at g
    ·rename_i h1;simp only[Ai]at g;exact ZhC H B S T j y (q h1) g.1 g.2 e
    cases g
   ·split at g
    ·rename_i h1;simp only[Ai]at g;exact Zhc H B S T j y (q h1) g.1 g.2 e
    cases g
   ·split at g
    ·rename_i h1 s;simp only[Ai,B7]at g;obtain⟨⟨⟨F,u⟩,D⟩,C⟩:=g;rcases u with u|u
     ·obtain⟨el,t⟩:=aC u;exact Xz H B S T j y (q h1) (q s) F t (.inl ⟨el,rfl⟩) D C e
     exact Xz H B S T j y (q h1) (q s) F (PK u) (.inr rfl) D C e
    cases g
   ·split at g
    ·rename_i h1 s;simp only[Ai,B7]at g;obtain⟨⟨⟨F,u⟩,D⟩,C⟩:=g;rcases u with u|u
     ·obtain⟨el,t⟩:=aC u;exact Xz H B S T j y (q h1) (q s) F t (.inl ⟨el,rfl⟩) D C ((bE (W1 e)).symm.trans e)
     exact Xz H B S T j y (q h1) (q s) F (PK u) (.inr rfl) D C ((bE (W1 e)).symm.trans e)
    cases g
   cases g
  cases g
 cases g
end
def T_.slots:T_->List Nat
 |.t n=>[n]|.c _=>[]
def dA:Option T_->List Nat
 |none=>[]|some x=>x.slots
def Tb:List (Nat×Nat×T_)->List Nat
 |[]=>[]|(_,_,x)::r=>x.slots++Tb r
def XV:List T_->List Nat
 |[]=>[]|x::r=>x.slots++XV r
def o_.uses:o_->List Nat
 |.mv x|.z_ x|.boxB _ _ x|.boxH _ x|.mkSlice _ _ x|.d7 _ _ x|.i5 _ x|.loadX _ _ _ x|.un _ x|.conv _ x|.bstr x|.f5 _ x|.field _ _ x|.len x|.lenT x|.extract x _=>x.slots|.pick c a b=>c.slots++a.slots++b.slots|.e_ _ _|.allocH _=>[]|.build _ ps|.d5 _ _ _ ps=>Tb ps|.V_ _ _ a x|.f8 _ a x|.bin _ a x|.eqB _ a x|.eqN _ a x|.eqA _ _ a x|.p_ _ a x|.index a x|.app _ a x|.appN _ a x|.minI a x|.maxI a x=>a.slots++x.slots|.slice _ x lo hi|.substr x lo hi=>x.slots++dA lo++dA hi|.callB _ _ args=>XV args
def k_(b:List Nat)(s g:List V):Prop:=∀t∈b,get g t=get s t
theorem k_.left{a b:List Nat}{s g:List V}(h:k_ (a++b) s g):k_ a s g:=λt ht=>h t (dL _ ht)
theorem k_.right{a b:List Nat}{s g:List V}(h:k_ (a++b) s g):k_ b s g:=λt ht=>h t (dT _ ht)
theorem BC{x:T_}{s b:List V}(h:k_ x.slots s b):x.ev b=x.ev s:=by
 cases x with
 |t n=>exact h n (by simp[T_.slots])
 |c v=>rfl
theorem Wv{x:Option T_}{s b:List V}(h:k_ (dA x) s b):x.map (·.ev b)=x.map (·.ev s):=by
 cases x with
 |none=>rfl
 |some x=>simp only[Cq];rw[BC h]
theorem V7{s b:List V}:∀(g:List (Nat×Nat×T_)) (cs:List V),k_ (Tb g) s b->DQ b cs g=DQ s cs g
 |[],_,_=>rfl
 | (off,size,x)::r,cs,h=>by
   have h1:x.ev b=x.ev s:=BC (k_.left h);simp only[DQ,h1];split
   ·exact V7 r _ (k_.right h)
   rfl
theorem Z2{s g:List V}:∀(b:List T_),k_ (XV b) s g->b.map (·.ev g)=b.map (·.ev s)
 |[],_=>rfl
 |x::r,h=>by simp only[Cf];rw[BC (k_.left h),Z2 r (k_.right h)]
theorem ZO{o:o_}{s u:List V}{bx:List (List V)}{hp:Ab}(h:k_ o.uses s u):Af o ⟨u,bx,hp⟩=Af o ⟨s,bx,hp⟩:=by
 cases o with
 |mv x=>simp only[Af,BC (x:=x) h]
 |z_ x=>simp only[Af,BC (x:=x) h]
 |boxB i n x=>simp only[Af,BC (x:=x) h]
 |boxH n x=>simp only[Af,BC (x:=x) h]
 |mkSlice w z x=>simp only[Af,BC (x:=x) h]
 |d7 i n x=>simp only[Af,BC (x:=x) h]
 |i5 n x=>simp only[Af,BC (x:=x) h]
 |loadX i c n x=>simp only[Af,BC (x:=x) h]
 |un op x=>simp only[Af,BC (x:=x) h]
 |conv k x=>simp only[Af,BC (x:=x) h]
 |bstr x=>simp only[Af,BC (x:=x) h]
 |f5 n x=>simp only[Af,BC (x:=x) h]
 |field n m x=>simp only[Af,BC (x:=x) h]
 |len x=>simp only[Af,BC (x:=x) h]
 |lenT x=>simp only[Af,BC (x:=x) h]
 |extract x i=>simp only[Af,BC (x:=x) h]
 |pick c a b=>simp only[Af,BC (x:=c) (k_.left (k_.left h)),BC (x:=a) (k_.right (k_.left h)),BC (x:=b) (k_.right h)]
 |e_ i g=>rfl
 |allocH g=>rfl
 |build g q=>simp only[Af,V7 q g h]
 |d5 w n g q=>simp only[Af,V7 q g h]
 |V_ i n a x=>simp only[Af,BC (x:=a) (k_.left h),BC (x:=x) (k_.right h)]
 |f8 n a x=>simp only[Af,BC (x:=a) (k_.left h),BC (x:=x) (k_.right h)]
 |bin op a x=>simp only[Af,BC (x:=a) (k_.left h),BC (x:=x) (k_.right h)]
 |eqB j a x=>simp only[Af,BC (x:=a) (k_.left h),BC (x:=x) (k_.right h)]
 |eqN j a x=>simp only[Af,BC (x:=a) (k_.left h)]
 |eqA n j a x=>simp only[Af,BC (x:=a) (k_.left h),BC (x:=x) (k_.right h)]
 |p_ w a x=>simp only[Af,BC (x:=a) (k_.left h),BC (x:=x) (k_.right h)]
 |index a x=>simp only[Af,BC (x:=a) (k_.left h),BC (x:=x) (k_.right h)]
 |app w a x=>simp only[Af,BC (x:=a) (k_.left h),BC (x:=x) (k_.right h)]
 |appN w a x=>simp only[Af,BC (x:=a) (k_.left h),BC (x:=x) (k_.right h)]
 |minI a x=>simp only[Af,BC (x:=a) (k_.left h),BC (x:=x) (k_.right h)]
 |maxI a x=>simp only[Af,BC (x:=a) (k_.left h),BC (x:=x) (k_.right h)]
 |slice w x t hi=>simp only[Af,BC (x:=x) (k_.left (k_.left h)),Wv (x:=t) (k_.right (k_.left h)),Wv (x:=hi) (k_.right h)]
 |substr x t hi=>simp only[Af,BC (x:=x) (k_.left (k_.left h)),Wv (x:=t) (k_.right (k_.left h)),Wv (x:=hi) (k_.right h)]
 |callB y f args=>rfl
def o_.isPure:o_->Bool
 |.mv _|.z_ _|.pick ..|.build ..|.bin ..|.eqB ..|.eqN ..|.eqA ..|.un ..|.conv ..|.substr ..|.f5 ..|.field ..|.p_ ..|.index ..|.len _|.lenT _|.minI ..|.maxI ..|.extract ..=>true|_=>false
def o_.isReadH:o_->Bool
 |.i5 ..|.loadX ..|.slice ..|.bstr _=>true|_=>false
def o_.isLoadB:o_->Bool
 |.d7 ..=>true|_=>false
def o_.isPush:o_->Bool
 |.mkSlice ..|.d5 ..|.allocH _|.boxH ..|.V_ ..|.appN ..=>true|_=>false
def o_.writesBox:o_->Option Nat
 |.V_ i _ _ _=>some i|_=>none
def o_.readsBox:o_->Option Nat
 |.d7 i _ _=>some i|.loadX i _ _ _=>some i|_=>none
def o_.clearsBox:o_->Bool
 |.e_ ..|.boxB ..=>true|_=>false
def o_.isSlice:o_->Bool
 |.slice ..=>true|_=>false
def o_.isApp:o_->Bool
 |.app ..=>true|_=>false
def o_.isCall:o_->Bool
 |.callB ..=>true|_=>false
def o_.isKeep:o_->Bool
 |.callB .all _ _=>true|_=>false
def o_.keptBy(p q:o_):Bool:=match q with
 | .callB (.box i' c') _ _=>(match p with
   |.loadX i c _ _=>i == i'&&c == c'
   |_=>false)
 |_=>false
def o_.isMv:o_->Bool
 |.mv _=>true|_=>false
theorem NH{o:o_}(J:o.isPure=true){s:List V}{bx G:List (List V)}{hp F:Ab}{v:V}(e:Af o ⟨s,bx,hp⟩=some (v,G,F)):G=bx/\F=hp/\∀A z,Af o ⟨s,A,z⟩=some (v,A,z):=by
 have D:∀bx hp,Af o ⟨s,bx,hp⟩=((Af o ⟨s,[],[]⟩).map (·.1)).bind λv=>some (v,bx,hp):=by
  intro bx hp;cases o with
  |mv x=>rfl
  |z_ x=>simp only[Af];generalize x.ev s=u;cases u<;>rfl
  |pick c a b=>simp only[Af];generalize c.ev s=u;cases u<;>rfl
  | build zs ps=>
    simp only[Af];by_cases h:zs.all V.cell=true
    ·simp only[h,AS];cases DQ s zs ps<;>rfl
    simp only[h];rfl
  |bin op x y=>simp only[Af];cases Cy op (x.ev s) (y.ev s)<;>rfl
  |eqB C x y=>simp only[Af];generalize x.ev s=u;generalize y.ev s=t;cases u<;>cases t<;>rfl
  | eqN C x y=>
    simp only[Af];generalize x.ev s=u;cases u<;>first|rfl|skip
    cases y with
    |t n=>rfl
    |c c=>cases c<;>first|rfl|(rename_i b;cases b<;>rfl)
  | eqA n C x y=>
    simp only[Af];generalize x.ev s=u;generalize y.ev s=t;cases u<;>cases t<;>first|rfl|skip
    rename_i a b;by_cases h:a.length=n/\b.length=n
    ·simp only[Ac h];cases Em a b<;>rfl
    simp only[Ae h];rfl
  |un op x=>simp only[Af];cases Je op (x.ev s)<;>rfl
  |conv k x=>simp only[Af];generalize x.ev s=u;cases u<;>rfl
  | substr x lo hi=>
    simp only[Af];generalize x.ev s=u;cases u<;>first|rfl|skip
    rename_i t;dsimp only;cases Eo 0 (lo.map (·.ev s))with
    |none=>rfl
    | some l=>
      simp only[II];cases Eo t.length (hi.map (·.ev s))with
      |none=>rfl
      | some h=>
        simp only[II];by_cases g:l<=h/\h<=t.length
        ·simp only[Ac g];rfl
        simp only[Ae g];rfl
  |f5 off x=>simp only[Af];generalize x.ev s=u;cases u<;>rfl
  | field off n x=>
    simp only[Af];generalize x.ev s=u;cases u<;>first|rfl|skip
    rename_i cs;by_cases g:off+n.getD 1<=cs.length
    ·simp only[Ac g];cases CC n ((cs.drop off).take (n.getD 1))<;>rfl
    simp only[Ae g];rfl
  | p_ w x i=>
    simp only[Af];generalize x.ev s=u;generalize i.ev s=t;cases u<;>first|rfl|skip
    cases t<;>first|rfl|skip
    rename_i l q n k j;by_cases g:0<=j/\j<(n:Int)
    ·simp only[Ac g];rfl
    simp only[Ae g];rfl
  | index x i=>
    simp only[Af];generalize x.ev s=u;generalize i.ev s=t;cases u<;>first|rfl|skip
    cases t<;>first|rfl|skip
    rename_i t k j;by_cases g:0<=j
    ·simp only[Ac g];cases t[j.toNat]?<;>rfl
    simp only[Ae g];rfl
  |len x=>simp only[Af];generalize x.ev s=u;cases u<;>rfl
  |lenT x=>simp only[Af];generalize x.ev s=u;cases u<;>rfl
  |minI x y=>simp only[Af];generalize x.ev s=u;generalize y.ev s=t;cases u<;>first|rfl|(rename_i k _;cases k<;>first|rfl|(cases t<;>first|rfl|(rename_i k _;cases k<;>rfl)))
  |maxI x y=>simp only[Af];generalize x.ev s=u;generalize y.ev s=t;cases u<;>first|rfl|(rename_i k _;cases k<;>first|rfl|(cases t<;>first|rfl|(rename_i k _;cases k<;>rfl)))
  | extract x i=>
    simp only[Af];generalize x.ev s=u;cases u<;>first|rfl|skip
    rename_i I;dsimp only;cases I[i]?<;>rfl
  |_=>simp[o_.isPure]at J
 rw[D]at e;simp only[Ca]at e;obtain⟨u,h1,L⟩:=e;cases L;exact⟨rfl,rfl,λA z=>by rw[D,h1];rfl⟩
theorem jM{h:Ab}{b:Blk}{l w:Nat}(e:ED h l=some w):ED (h++[b]) l=some w:=by
 unfold ED at e ⊢;cases g:h[l]? with
 |none=>simp[g]at e
 | some c=>
   have i:l<h.length:=(List.getElem?_eq_some_iff.1 g).1;rw[Bi i,g];rw[g]at e;exact e
def Kept(hp b:Ab):Prop:=∀l,l<hp.length->b[l]?=hp[l]?
theorem Kept.push{hp g:Ab}(h:g=hp\/∃b,g=hp++[b]):Kept hp g:=by
 rcases h with rfl|⟨b,rfl⟩
 ·exact λ_ _=>rfl
 exact λl i=>Bi i
theorem Kept.rd{h g:Ab}(k:Kept h g){l o n:Nat}{cs:List V}(e:rd h l o n=some cs):Ag.rd g l o n=some cs:=by
 unfold Ag.rd at e ⊢;cases b:h[l]? with
 |none=>simp[b]at e
 | some c=>
   rw[k l (List.getElem?_eq_some_iff.1 b).1,b];rw[b]at e;exact e
theorem Kept.width{h g:Ab}(k:Kept h g){l w:Nat}(e:ED h l=some w):ED g l=some w:=by
 unfold ED at e ⊢;cases b:h[l]? with
 |none=>simp[b]at e
 | some c=>
   rw[k l (List.getElem?_eq_some_iff.1 b).1,b];rw[b]at e;exact e
theorem PL{o:o_}(D:o.isReadH=true){s:List V}{bx z:List (List V)}{hp y:Ab}{v:V}(e:Af o ⟨s,bx,hp⟩=some (v,z,y)):z=bx/\y=hp/\∀g b,Kept hp b->(∀i,o.readsBox=some i->AZ g i=AZ bx i)->Af o ⟨s,g,b⟩=some (v,g,b):=by
 cases o with
 | i5 n x=>
   simp only[Af]at e ⊢;generalize x.ev s=u at *;cases u<;>simp only[Ca,reduceCtorEq]at e;obtain⟨cs,t,u,q,j⟩:=e;cases j;exact⟨rfl,rfl,λg b h _=>by simp[h.rd t,q]⟩
 | loadX i c n x=>
   obtain⟨A,e⟩:=WM e;simp only[Af]at e ⊢;simp only at A;generalize x.ev s=u at *;cases u<;>simp only[Ca,reduceCtorEq]at e;obtain⟨cs,t,u,q,j⟩:=e;cases j;exact⟨rfl,rfl,λg b h F=>by rw[F i rfl];simp[A,h.rd t,q]⟩
 | slice w x lo hi=>
   simp only[Af]at e ⊢;generalize x.ev s=u at *;cases u<;>simp only[Ca,reduceCtorEq]at e
   ·obtain⟨l,t,h,q,j⟩:=e;split at j
    ·rename_i C;cases j;refine⟨rfl,rfl,λg b _ _=>?_⟩;simp[t,q,C]
    cases j
   obtain⟨l,t,h,q,j⟩:=e;split at j
   ·rename_i C;obtain⟨I,c2,G⟩:=C;cases j;exact⟨rfl,rfl,λg b A _=>by simp[t,q,I,c2,A.width G]⟩
   cases j
 | bstr x=>
   simp only[Af]at e ⊢;generalize x.ev s=u at *;cases u<;>simp only[Ca,reduceCtorEq]at e
   ·cases e;exact⟨rfl,rfl,λ_ _ _ _=>rfl⟩
   obtain⟨cs,t,u,q,j⟩:=e;cases j;exact⟨rfl,rfl,λg b h _=>by simp[h.rd t,q]⟩
 |_=>simp[o_.isReadH]at D
theorem ND{i:Nat}{n:Option Nat}{x:T_}{s:List V}{bx q:List (List V)}{hp j:Ab}{v:V}(e:Af (.d7 i n x) ⟨s,bx,hp⟩=some (v,q,j)):q=bx/\j=hp/\∀b g,AZ b i=AZ bx i->Af (.d7 i n x) ⟨s,b,g⟩=some (v,b,g):=by
 simp only[Af]at e ⊢;generalize x.ev s=u at *;cases u<;>simp only[reduceCtorEq]at e;split at e
 ·rename_i t;simp only[Ca]at e;obtain⟨u,z,y⟩:=e;cases y;refine⟨rfl,rfl,λb g h=>?_⟩;simp only[h,Ac t,z];rfl
 cases e
theorem Sx{o:o_}(A:o.isPush=true){s:List V}{bx t:List (List V)}{hp q:Ab}{v:V}(e:Af o ⟨s,bx,hp⟩=some (v,t,q)):(q=hp\/∃b,q=hp++[b])/\∀i,o.writesBox≠some i->AZ t i=AZ bx i:=by
 cases o with
 | mkSlice w z x=>
   simp only[Af]at e;split at e
   ·split at e
    ·split at e
     ·cases e;exact⟨.inl rfl,λ_ _=>rfl⟩
     cases e;exact⟨.inr ⟨_,rfl⟩,λ_ _=>rfl⟩
    cases e
   cases e
 | d5 w n zs ps=>
   simp only[Af]at e;split at e
   ·cases e;exact⟨.inl rfl,λ_ _=>rfl⟩
   split at e
   ·simp only[Ca]at e;obtain⟨cs,_,e⟩:=e;cases e;exact⟨.inr ⟨_,rfl⟩,λ_ _=>rfl⟩
   cases e
 | allocH zs=>
   simp only[Af]at e;split at e
   ·cases e;exact⟨.inr ⟨_,rfl⟩,λ_ _=>rfl⟩
   cases e
 | boxH n x=>
   simp only[Af]at e;split at e
   ·cases e;exact⟨.inr ⟨_,rfl⟩,λ_ _=>rfl⟩
   cases e
 | V_ i n a x=>
   simp only[Af]at e;split at e
   ·split at e
    ·cases e;refine⟨.inl rfl,λj C=>?_⟩;have D:j≠i:=λh=>C (by rw[h];rfl);have:∀(s:List (List V)) (n m:Nat) (v:List V),m≠n->AZ (CU s n v) m=AZ s m:=by
      intro s;induction s with
      |nil=>intros;rfl
      | cons x r ih=>
        intro n m v h;cases n with
        | zero=>cases m with
          |zero=>exact absurd rfl h
          |succ m=>rfl
        | succ n=>cases m with
          |zero=>rfl
          |succ m=>exact ih n m v (by omega)
     exact this _ _ _ _ D
    cases e
   cases e
 | appN w x y=>
   have u:=W1 e;simp only[Af]at e;simp only at u;rw[u]at e;simp only at e;split at e
   ·simp only[Ca]at e;obtain⟨⟨G,h1⟩,g,F⟩:=e;cases F;unfold app at g;split at g
    ·cases g
    simp only at g;split at g
    ·cases g;exact⟨.inl rfl,λ_ _=>rfl⟩
    split at g
    ·cases g;exact⟨.inr ⟨_,rfl⟩,λ_ _=>rfl⟩
    cases g
   cases e
 |_=>simp[o_.isPush]at A
theorem ZcC{o:o_}(z:o.isSlice=true){s:List V}{bx n:List (List V)}{hp j:Ab}{v:V}(e:Af o ⟨s,bx,hp⟩=some (v,n,j)):n=bx/\j=hp/\∀g b,(∀l w,ED hp l=some w->ED b l=some w)->Af o ⟨s,g,b⟩=some (v,g,b):=by
 cases o<;>simp[o_.isSlice]at z;rename_i w x F hi;simp only[Af]at e ⊢;generalize x.ev s=u at *;cases u<;>simp only[Ca,reduceCtorEq]at e
 ·obtain⟨l,y,h,t,i⟩:=e;split at i
  ·rename_i q;cases i;refine⟨rfl,rfl,λg b _=>?_⟩;simp[y,t,q]
  cases i
 obtain⟨l,y,h,t,i⟩:=e;split at i
 ·rename_i q;obtain⟨D,c2,C⟩:=q;cases i;refine⟨rfl,rfl,λg b A=>?_⟩;simp[y,t,D,c2,A _ _ C]
 cases i
theorem Ze4{o:o_}(C:o.isApp=true){s:List V}{bx q:List (List V)}{hp j:Ab}{v:V}(e:Af o ⟨s,bx,hp⟩=some (v,q,j)):∀l w,ED hp l=some w->ED j l=some w:=by
 cases o<;>simp[o_.isApp]at C;rename_i w x y;intro l w' i;simp only[Af]at e;split at e
 ·simp only [Ca]at e;obtain⟨⟨I,h1⟩,g,G⟩:=e;cases G;unfold app at g;split at g
  ·cases g
  rename_i A k t;split at g
  ·split at g
   ·cases g;exact i
   split at g
   ·cases g;exact jM i
   cases g
  ·rename_i l' o n _;split at g
   ·cases g;exact i
   split at g
   ·rename_i b z;split at g
    ·rename_i D;cases g;refine jM ?_;unfold ED at i ⊢;rw[G3];by_cases u:l'=l
     ·subst u;have F:l'<hp.length:=(List.getElem?_eq_some_iff.1 z).1;rw[z]at i;simp only[Ao]at i;simp[F,<- i,D.2.1]
     rw[Ae u];exact i
    cases g
   cases g
  cases g
 cases e
def qc(Φ:Phm)(v:V):Prop:=(∀l o n,v= .slice l o n->Φ l=none)/\∀l o,v= .ptr l o->Φ l=none
theorem jA{Φ:Phm}{h:Ab}{l:Nat}{X_:Blk}(e:(kill Φ h)[l]?=some X_)(i:0<X_.w):Φ l=none:=by
 rw[Gh]at e;cases g:h[l]? with
 |none=>rw[g]at e;cases e
 | some b=>
   rw[g]at e;simp only[Cq,Ao]at e;cases hp:Φ l with
   |none=>rfl
   |some c=>rw[hp]at e;simp at e;subst e;simp[Nf]at i
theorem cG{Φ:Phm}{h:Ab}{ι:AF}{β:Nat->Nat}{v:V}{x:Value}(r:Rel ι (kill Φ h) β v x):qc Φ v:=by
 refine⟨λl o n e=>?_,λl o e=>?_⟩
 ·subst e;obtain⟨X_,b,_⟩:=Ge r;exact jA b (Mk r b)
 subst e;obtain⟨⟨X_,b⟩,_⟩:=IK r;exact jA b (Wx r b)
theorem Qg{Φ:Phm}{h:Ab}{l o n:Nat}(e:Φ l=none):rd (kill Φ h) l o n=rd h l o n:=by unfold rd;rw[Qn e]
theorem ZcS{Φ:Phm}{h:Ab}{l:Nat}(e:Φ l=none):ED (kill Φ h) l=ED h l:=by unfold ED;rw[Qn e]
def o_.heads:o_->List T_
 |.i5 _ x|.loadX _ _ _ x|.bstr x|.slice _ x _ _|.f8 _ x _=>[x]|.app _ x y=>[x,y]|.appN _ x y=>[x,y]|_=>[]
theorem Zfh{P:Program}{op:Op}{o:o_}(b:Fa P op o=true):∀y∈o.heads,∃x,AE x y=true:=by
 intro y g;cases o<;>simp only[o_.heads,Cu,List.not_mem_nil,or_false]at g;case i5 n x=>subst g;cases op<;>simp only[Fa,Ai,AY]at b;exact⟨_,b.2⟩;(split at b<;>simp[Li]at b)
 case loadX i c n x=>subst g;cases op<;>simp only[Fa,Ai,AY]at b;exact⟨_,b.2⟩;(split at b<;>simp[Li]at b)
 case bstr x=>subst g;cases op<;>simp only[Fa,Ai,AY]at b;exact⟨_,b.2⟩;(split at b<;>simp[Li]at b)
 case slice w x lo hi=>
  subst g;cases op<;>simp only[Fa,AY]at b
  ·rename_i t q s h1 j;cases j<;>simp only[Fa,Ai,AY]at b;exact⟨_,b.1.1.2⟩
  (split at b<;>simp[Li]at b)
 case f8 n x z=>subst g;cases op<;>simp only[Fa,Ai,AY]at b;exact⟨_,b.1.2⟩;(split at b<;>simp[Li]at b)
 case app w x z=>
  cases op<;>simp only[Fa,AY]at b;split at b
  ·simp only[Li]at b;split at b
   ·simp only[Ai]at b;rcases g with rfl|rfl
    ·exact⟨_,b.1.2⟩
    exact⟨_,b.2⟩
   cases b
  cases b
 case appN w x z=>
  cases op<;>simp only[Fa,AY]at b;split at b
  ·simp only[Li]at b;split at b
   ·simp only[Ai]at b;rcases g with rfl|rfl
    ·exact⟨_,b.1.2⟩
    exact⟨_,b.2⟩
   cases b
  cases b
theorem Zed{o:o_}{Φ:Phm}{sl:List V}{bx L:List (List V)}{h h1:Ab}{v:V}(j:Has Φ h)(F:∀x∈o.heads,qc Φ (x.ev sl))(e:Af o ⟨sl,bx,h⟩=some (v,L,h1)):Af o ⟨sl,bx,kill Φ h⟩=some (v,L,kill Φ h1)/\Has Φ h1:=by
 by_cases hp:o.isPure=true
 ·obtain⟨rfl,rfl,Z⟩:=NH hp e;exact⟨Z _ _,j⟩
 cases o<;>first|exact absurd rfl hp|skip
 case e_ i zs=>
  simp only[Af]at e ⊢;split at e
  ·rename_i q;cases e;exact⟨by rw[Ac q],j⟩
  cases e
 case boxB i n x=>
  simp only[Af]at e ⊢;split at e
  ·rename_i q;cases e;exact⟨by rw[Ac q],j⟩
  cases e
 case allocH zs=>
  simp only[Af]at e ⊢;split at e
  ·rename_i q;cases e;exact⟨by rw[Ac q,El,NG j],j.push _⟩
  cases e
 case boxH n x=>
  simp only[Af]at e ⊢;split at e
  ·rename_i q;cases e;exact⟨by rw[Ac q,El,NG j],j.push _⟩
  cases e
 case mkSlice w z x=>
  simp only[Af]at e ⊢;generalize x.ev sl=u at *;split at e
  ·split at e
   ·rename_i q;simp only[Ac q];split at e
    ·rename_i h0;cases e;exact⟨by rw[Ac h0],j⟩
    rename_i h0;cases e;exact⟨by rw[Ae h0,El,NG j],j.push _⟩
   cases e
  cases e
 case d5 w n zs ps=>
  simp only[Af]at e ⊢;split at e
  ·rename_i h0;cases e;exact⟨by rw[Ac h0],j⟩
  rename_i h0;rw[Ae h0];split at e
  ·rename_i q;rw[Ac q];simp only[Ca]at e;obtain⟨cs,g,e⟩:=e;cases e;exact⟨by rw[g,El,NG j];rfl,j.push _⟩
  cases e
 case d7 i n x=>
  obtain⟨rfl,rfl,Z⟩:=ND e;exact⟨Z _ _ rfl,j⟩
 case V_ i n a x=>
  simp only[Af]at e ⊢;generalize a.ev sl=u at *;split at e
  ·split at e
   ·rename_i q;cases e;exact⟨by rw[Ac q],j⟩
   cases e
  cases e
 case i5 n x=>
  have C:=F x (by simp[o_.heads]);simp only[Af]at e ⊢;generalize x.ev sl=u at *;split at e
  ·rename_i l o;simp only[Ca]at e;obtain⟨cs,g,u,D,e⟩:=e;cases e;exact⟨by rw[Qg (C.2 l o rfl),g];simp[D],j⟩
  cases e
 case f8 n a x=>
  have C:=F a (by simp[o_.heads]);simp only[Af]at e ⊢;generalize a.ev sl=u at *;split at e
  ·rename_i l o;have G:=C.2 l o rfl;split at e
   ·rename_i q;simp only[Ac q];simp only[Ca]at e;obtain⟨I,g,e⟩:=e;cases e;unfold wr at g ⊢;rw[Qn G];split at g
    ·rename_i b hb;split at g
     ·rename_i Y;cases g;exact⟨by simp only[Ac Y];rw[WQ G];rfl,j.set G _⟩
     cases g
    cases g
   cases e
  cases e
 case bstr x=>
  have C:=F x (by simp[o_.heads]);simp only[Af]at e ⊢;generalize x.ev sl=u at *;split at e
  ·cases e;exact⟨rfl,j⟩
  ·rename_i l o n;simp only[Ca]at e;obtain⟨cs,g,u,D,e⟩:=e;cases e;exact⟨by rw[Qg (C.1 l o n rfl),g];simp[D],j⟩
  cases e
 case slice w x lo hi=>
  have C:=F x (by simp[o_.heads]);simp only[Af]at e ⊢;generalize x.ev sl=u at *;split at e
  ·simp only[Ca]at e;obtain⟨l1,g,I,D,e⟩:=e;split at e
   ·rename_i q;cases e;exact⟨by simp[g,D,q],j⟩
   cases e
  ·rename_i l o n;simp only[Ca]at e;obtain⟨l1,g,I,D,e⟩:=e;split at e
   ·rename_i q;cases e;exact⟨by simp[g,D,ZcS (C.1 l o n rfl),q],j⟩
   cases e
  cases e
 case app w x y=>
  have U:=F x (by simp[o_.heads]);have J:=F y (by simp[o_.heads]);simp only[Af]at e ⊢;generalize x.ev sl=u at *;generalize y.ev sl=t at *;split at e
  ·rename_i O;rw[Ac O];simp only[Ca]at e;obtain⟨⟨M,I⟩,g,e⟩:=e;cases e;have hs:DJ (kill Φ h) w t=DJ h w t:=by
    cases t<;>try rfl
    rename_i l o n;simp only[DJ,Qg (J.1 l o n rfl)]
   have:app (kill Φ h) w u t=some (M,kill Φ I)/\Has Φ I:=by
    unfold app at g ⊢;rw[hs];split at g
    ·cases g
    rename_i N k s;try simp only[s]
    split at g
    ·split at g
     ·rename_i A;cases g;exact⟨by simp[A],j⟩
     rename_i A;split at g
     ·rename_i R;cases g;exact⟨by rw[Ae A,Ac R,El,NG j],j.push _⟩
     cases g
    ·rename_i l o n;have G:=U.1 l o n rfl;split at g
     ·rename_i A;cases g;exact⟨by simp[A],j⟩
     rename_i A;split at g
     ·rename_i b hb;split at g
      ·rename_i q;cases g;refine⟨?_,(j.set G _).push _⟩;simp only[Ae A,Qn G,hb,Ac q];rw[NG (j.set G _),WQ G,El]
      cases g
     cases g
    cases g
   exact⟨by rw[this.1];rfl,this.2⟩
  cases e
 case appN w x y=>
  have hx:=W1 e;simp only at hx;have J:=F y (by simp[o_.heads]);simp only[Af,hx]at e ⊢;generalize y.ev sl=t at *;split at e
  ·rename_i O;rw[Ac O];simp only[Ca]at e;obtain⟨⟨M,I⟩,g,e⟩:=e;cases e;have hs:DJ (kill Φ h) w t=DJ h w t:=by
    cases t<;>try rfl
    rename_i l o n;simp only[DJ,Qg (J.1 l o n rfl)]
   have:app (kill Φ h) w .b_ t=some (M,kill Φ I)/\Has Φ I:=by
    unfold app at g ⊢;rw[hs];split at g
    ·cases g
    rename_i N k s;try simp only[s]
    simp only at g;split at g
    ·rename_i A;cases g;exact⟨by simp[A],j⟩
    rename_i A;split at g
    ·rename_i R;cases g;exact⟨by rw[Ae A,Ac R,El,NG j],j.push _⟩
    cases g
   exact⟨by rw[this.1];rfl,this.2⟩
  cases e
 case loadX i c n x=>
  have C:=F x (by simp[o_.heads]);obtain⟨hh,e⟩:=WM e;rw[l8 (st:=⟨sl,bx,kill Φ h⟩) hh];simp only[Af]at e ⊢;generalize x.ev sl=u at *;split at e
  ·rename_i l o;simp only[Ca]at e;obtain⟨cs,g,u,D,e⟩:=e;cases e;exact⟨by rw[Qg (C.2 l o rfl),g];simp[D],j⟩
  cases e
 case callB=>simp[Af]at e
def cA(ops:Array Oper):Option (Nat×Bool)->Option (Nat×Bool)->Bool
 |none,none=>true|some (j,want),some (g,want')=>want == want'&&(ops[j]?).bind (·.dst) == some g|_,_=>false
def nE(P:Program)(g:FuncId):Bool:=match P.funcs[g]? with|some b=>b.body.isSome&&b.name != "runtime.NumGoroutine"|none=>false
def Ll(P:Program)(op:Op)(args:List T_):Option FuncId:=
 match op with
 | .call c=>(match c.callee with
   |.value (.func g)=>if OK c.args.toList args&&nE P g then some g else none
   |_=>none)
 |_=>none
def MK(P:Program)(ops:Array Oper)(b:a_):Bool:=
 match ops[b.id]? with
 |some o=>o.dst == b.dst&&cA ops o.guard b.guard&&(match b.op with|.callB _ _ args=>(Ll P o.op args).isSome|p=>Fa P o.op p)
 |none=>false
def Lt(P:Program)(ops:Array Oper)(b:a_):List (FuncId×Bc):=
 match b.op,ops[b.id]? with
 |.callB _ f args,some o=>(match Ll P o.op args with|some g=>[(g,f)]|none=>[])
 |_,_=>[]
theorem Qh {ι0 ι:AF} {σ0 hp:Ab} {Φ:Phm} {w0 w:World} {a:Act} {sl:List V} {bx:List (List V)} {β:Nat->Nat} {v:V} {x:Value} {d:Option Nat} (hd:a.defers=[]) (g:Has Φ hp) (H:HRel ι (kill Φ hp) w) (B:BRel ι (kill Φ hp) β bx w0 w)
 (S:SRel ι (kill Φ hp) β sl a.tmps) (j:Rel ι (kill Φ hp) β v x) (T:Step ι0 σ0 w0 ι (kill Φ hp) w):CZ ι0 σ0 w0 Φ (St.put ⟨sl,bx,hp⟩ d v) (a.put d x) w:=by
 cases d with
 |none=>exact⟨hd,g,ι,β,H,B,S,T⟩
 | some d=>
   refine⟨hd,g,ι,β,H,B,⟨by simpa [Act.put,St.put]using S.1,λi=>?_⟩,T⟩;simp only[Act.put,St.put];by_cases hi:i=d
   ·subst hi;by_cases b:i<sl.length
    ·rw[Zbg _ _ _ b];have:i<a.tmps.size:=HJ b S.1;have e:(a.tmps.setIfInBounds i x).getD i Go.undef=x:=(by simp[Array.getD,this]);rw[e];exact j
    rw[Zia _ _ (by simp;omega)];exact .undef _
   rw[iC _ _ _ _ hi];have e:(a.tmps.setIfInBounds d x).getD i Go.undef=a.tmps.getD i Go.undef:=by
    simp only[MX,Th,Ae (HB hi)]
   rw[e];exact S.2 i
theorem jL{ι ι':AF}{σ σ':Ab}{w0 w w':World}{β:Nat->Nat}{bx:List (List V)}(B:BRel ι σ β bx w0 w)(T:Step ι σ w ι' σ' w'):BRel ι' σ' β bx w0 w':=by
 refine B.mono T.keeps (λi cs hi b=>T.frame _ (B.new i cs hi b).2 λl X_ n g=>B.heap i cs l X_ hi b n (by rw[g];decide)) T.size λi cs l s hi b n g=>?_;by_cases u:l<σ.length
 ·obtain⟨X_,q⟩:=PY u;rw[T.keeps.place l X_ q];rcases T.kinds l X_ s q n with e|⟨_,e⟩
  ·exact B.heap i cs l X_ hi b q (e▸g)
  exact absurd e g
 rcases (T.fresh l s (by omega) n g).2 with e|⟨l0,j,h0,t,p0⟩
 ·have:=(B.new i cs hi b).2;omega
 rw[<- p0];exact B.heap i cs l0 j hi b h0 (by rw[t];decide)
theorem ZfO{n:List Operand}{b:List T_}(h:OK n b=true){ι:AF}{σ:Ab}{β:Nat->Nat}{sl:List V}{a:Act}(S:SRel ι σ β sl a.tmps)(g:(b.map (·.ev sl)).all V.ok1=true):mQ ι σ (b.map (·.ev sl)) (n.map a.eval):=by
 induction n generalizing b with
 | nil=>cases b with
   |nil=>exact⟨rfl,by simp⟩
   |cons=>simp[OK]at h
 | cons x r ih=>cases b with
   |nil=>simp[OK]at h
   | cons y s=>
     simp only[OK,Ai]at h;simp only[Cf,FW,Ai]at g;obtain⟨h1,A⟩:=ih h.2 g.2;refine⟨by simp at h1 ⊢;exact h1,λi v z u t β'=>?_⟩;cases i with
     | zero=>
       simp at u t;subst u;subst t;refine(BG h.1 S).mono (.refl _ _) λj q e=>?_;rw[e]at g;simp[V.ok1,V.cell]at g
     |succ i=>exact A i v z (by simpa using u) (by simpa using t) β'
section
variable {P:Program} {ops:Array Oper} {ι0:AF} {σ0:Ab} {Φ:Phm} {w0:World} {st:St} {a:Act} {w:World} {Q:Exit->Act->World->Prop}
theorem Zgm{o:Oper}{args:List T_}{g:FuncId}(h:Ll P o.op args=some g):∃n:List Operand,OK n args=true/\(execOp a.eval o).run P w= .ok (.enter g (n.map a.eval).toArray) w:=by
 unfold Ll at h;split at h
 ·rename_i c t;split at h
  ·rename_i A y;split at h
   ·rename_i b;cases h;simp only[Ai]at b;obtain⟨h1,i⟩:=b;unfold nE at i;split at i
    ·rename_i q j;simp only[Ai,SB,GZ]at i;refine⟨c.args.toList,h1,?_⟩;have z:q.body≠none:=by
      have:=i.1;intro s;rw[s]at this;simp at this
     have x:a.eval (.func g)= .func (.func g) #[] #[]:=rfl;have u:¬q.name= "runtime.NumGoroutine":=i.2
     simp[execOp,t,resolve,y,x,Deferred.ofValue,invoke,callFunc,j,z,u];apply Array.ext';simp
    cases i
   cases h
  cases h
 cases h
theorem ZbR{bx:List (List V)}{n:KP}{f:Bc}{g:FuncId}(hs:Ay P g f):Ay P g (Qz bx n f):=by
 cases n with
 |no=>exact hs
 | all=>
   rintro Φ ι σ w args xs Q h1 h2 h3 ⟨Q0,h4,h5⟩ h6;refine(hs Φ ι σ w args xs Q0 h1 h2 h3 h4 h6).mono ?_;rintro e w' ⟨x,r,σ',ι',rfl,j,b⟩;exact⟨x,r,σ',ι',rfl,(h5 r σ' j).2,b⟩
 | box i c=>
   rintro Φ ι σ w args xs Q h1 h2 h3 ⟨Q0,h4,h5⟩ h6;refine(hs Φ ι σ w args xs Q0 h1 h2 h3 h4 h6).mono ?_;rintro e w' ⟨x,r,σ',ι',rfl,j,b⟩;exact⟨x,r,σ',ι',rfl,(h5 r σ' j).2,b⟩
variable [hG:GlC P ι0 σ0 w0]
theorem zw {o:Oper} {z:KP} {f:Bc} {args:List T_} {g:FuncId} {d:Option Nat} {k:St->Prop} {K:Act->World->Prop} (hd:o.dst=d) (D:Ll P o.op args=some g) (hs:Ay P g f) (n:CZ ι0 σ0 w0 Φ st a w)
 (h:AK (.callB z f args) d k st) (F:∀f4 y w',CZ ι0 σ0 w0 Φ f4 y w'->k f4->K y w'):o.wp P a w K Q:=by
 obtain⟨s,G,ι,β,H,B,S,T⟩:=n;obtain⟨b,i⟩:=h;obtain⟨J,q,j⟩:=Zgm (a:=a) (w:=w) D;unfold Oper.wp;rw[j,Oper.upon_enter];refine(ZbR hs Φ ι st.hp w _ _ _ G H (ZfO q S b) i (hG.gl.step T)).mono ?_;rintro e w' ⟨x,r,σ',ι',rfl,C,t,A,I,u⟩;refine F _ _ _ ?_ C;subst hd;exact Qh s t I (jL B u) (S.mono u.keeps) (A β) (T.trans u)
theorem j8 {o:Oper} {i:o_} {d:Option Nat} {k:St->Prop} {K:Act->World->Prop} (hd:o.dst=d) (F:match i with|.callB _ _ args=>(Ll P o.op args).isSome=true|p=>Fa P o.op p=true)
 (U:∀n f args g,i= .callB n f args->Ll P o.op args=some g->Ay P g f) (j:CZ ι0 σ0 w0 Φ st a w) (h:AK i d k st) (C:∀f4 I w',CZ ι0 σ0 w0 Φ f4 I w'->k f4->K I w'):o.wp P a w K Q:=by
 by_cases b:∃n f args,i= .callB n f args
 ·obtain⟨n,f,args,rfl⟩:=b;obtain⟨g,G⟩:=Option.isSome_iff_exists.1 F;exact zw hd G (U n f args g rfl G) j h C
 have s:Fa P o.op i=true:=by
  cases i<;>first|exact F|exact absurd ⟨_,_,_,rfl⟩ b
 have h':match Af i st with|some (v,bx,hp)=>k (St.put { sl:=i.clears st.sl,bx,hp } d v)|none=>False:=by
  cases i<;>first|exact h|exact absurd ⟨_,_,_,rfl⟩ b
 split at h'
 ·rename_i v bx hp A;obtain⟨t,Y,ι,β,H,B,S,T⟩:=j;obtain⟨A,u⟩:=Zed (sl:=st.sl) (bx:=st.bx) Y (λy O=>by obtain⟨x,R⟩:=Zfh s y O;exact cG (BG R S)) A;obtain⟨Z,x,w',ι',β',q,z,M,N,L,D,J⟩:=mh (st:=⟨st.sl,st.bx,kill Φ st.hp⟩) H B S T s A;subst hd;unfold Oper.wp;rw[q];rcases z with rfl|⟨rfl,rfl⟩
  ·exact C _ _ _ (Qh t u M N L D J) h'
  exact C _ _ _ (Qh t u M N L D J) h'
 exact h'.elim
theorem jd {z:a_} {k:St->Prop} {K:Act->World->Prop} (C:MK P ops z=true) (hc:∀p∈Lt P ops z,Ay P p.1 p.2) (i:CZ ι0 σ0 w0 Φ st a w) (h:Cr z k st)
 (G:∀f4 a' w',CZ ι0 σ0 w0 Φ f4 a' w'->k f4->K a' w'):wpOp P ops Q z.id K a w:=by
 unfold MK at C;split at C
 ·rename_i o Z;simp only[Ai,A7]at C;obtain⟨⟨h1,D⟩,h3⟩:=C;have q:match z.op with|.callB _ _ args=>(Ll P o.op args).isSome=true|p=>Fa P o.op p=true:=by
   revert h3;cases z.op<;>exact λh=>h
  have s:∀U f args g,z.op= .callB U f args->Ll P o.op args=some g->Ay P g f:=by
   intro U f args g e1 R;exact hc (g,f) (by simp[Lt,e1,Z,R])
  unfold wpOp;simp only[Z];unfold Cr at h;unfold cA at D;split at D
  ·rename_i I O;have A:Region.wanted o (yielded ops a.tmps)=true:=(by unfold Region.wanted;rw[I]);rw[O]at h;rw[Ac A];exact .inl (j8 h1 q s i h G)
  ·rename_i j t g J I O;simp only[Ai,A7]at D;obtain⟨rfl,hj⟩:=D;rw[O]at h;have n:Rel _ _ _ (get st.sl g) (a.tmps.getD g Go.undef):=i.2.2.choose_spec.choose_spec.2.2.1.2 g;have Y:yielded ops a.tmps j=match a.tmps[g]? with|some (.bool b)=>some b|_=>none:=by
    unfold yielded;rw[hj];rfl
   simp only at h;split at h
   ·rename_i b M;rw[M]at n;have e:=P2 n;have R:a.tmps[g]?=some (.bool b):=by
     cases F:a.tmps[g]? with
     |none=>simp[MX,F,Go.undef]at e
     |some u=>simp[MX,F]at e;rw[e]
    have A:Region.wanted o (yielded ops a.tmps)=(b == t):=by
     unfold Region.wanted;rw[I];simp only[Y,R];cases b<;>cases t<;>rfl
    split at h
    ·rename_i y;rw[Ac (by rw[A,y];simp)];exact .inl (j8 h1 q s i h G)
    rename_i y;rw[Ae (by rw[A];simpa using y)];obtain⟨x,N,ι,β,H,B,S,T⟩:=i;rw[h1];exact G _ _ _ (Qh x N H B S (.f7 [] [] rfl (by simp) (by simp)) T) h
   ·rename_i M;rw[M]at n;obtain⟨ws,e,hl,_,_⟩:=nJ n;have L:ws=[]:=List.length_eq_zero_iff.1 hl.symm;subst L;have A:Region.wanted o (yielded ops a.tmps)=false:=by
     unfold Region.wanted;rw[I];simp only[Y];cases F:a.tmps[g]? with
     |none=>rfl
     |some u=>simp[MX,F]at e;rw[e];rfl
    rw[Ae (by rw[A];simp)];obtain⟨x,N,ι,β,H,B,S,T⟩:=i;rw[h1];exact G _ _ _ (Qh x N H B S (.f7 [] [] rfl (by simp) (by simp)) T) h
   exact h.elim
  cases D
 cases C
end
def a_.looks(o:a_):List Nat:=o.op.uses++(match o.guard with|some (g,_)=>[g]|none=>[])
def HO(d:Option Nat)(l:List Nat):Bool:=match d with|some d=>!l.contains d|none=>true
def Sc:Option Nat->Option Nat->Bool
 |some a,some b=>a != b|_,_=>true
def PZ:Option Nat->Option Nat->Bool
 |some a,some b=>a != b|_,_=>true
def LH(p q:o_):Bool:=
 !p.clearsBox&&!q.clearsBox&&!p.isCall &&
 (p.isPure||(p.isReadH&&q.isKeep)||p.keptBy q||(p.isLoadB&&PZ p.readsBox q.writesBox)||(p.isReadH&&(q.isPure||q.isLoadB||q.isReadH||q.isPush)&&PZ p.readsBox q.writesBox)||q.isPure||(q.isLoadB&&p.isPush&&PZ q.readsBox p.writesBox)||(p.isSlice&&q.isApp))
theorem Zb6{p q:o_}(h1:p.clearsBox=false)(i:p.isCall=false)(g:q.isPure=true)(b:q.clearsBox=false):LH p q=true:=by simp[LH,h1,i,g,b]
theorem Zcs{p q:o_}(h1:p.clearsBox=false)(i:p.isCall=false)(g:p.isPure=true)(b:q.clearsBox=false):LH p q=true:=by simp[LH,h1,i,g,b]
def Fp(p q:a_):Bool:=HO p.dst q.looks&&HO q.dst p.looks&&Sc p.dst q.dst&&(LH p.op q.op||(p.op.isKeep&&q.op.isMv&&q.guard.isNone))
theorem Zgb(s:List V)(a b:Nat)(v u:V)(h:a≠b):put (put s a v) b u=put (put s b u) a v:=by
 induction s generalizing a b with
 |nil=>rfl
 | cons x r ih=>
   cases a with
   | zero=>cases b with
     |zero=>exact absurd rfl h
     |succ b=>rfl
   | succ a=>cases b with
     |zero=>rfl
     |succ b=>simp only[put];rw[ih a b (by omega)]
def Fb(s:List V)(d:Option Nat)(v:V):List V:=match d with|some d=>put s d v|none=>s
theorem MQ(sl:List V)(bx:List (List V))(hp:Ab)(d:Option Nat)(v:V):St.put ⟨sl,bx,hp⟩ d v=⟨Fb sl d v,bx,hp⟩:=by cases d<;>rfl
theorem aL(s:List V)(a b:Option Nat)(v u:V)(h:Sc a b=true):Fb (Fb s a v) b u=Fb (Fb s b u) a v:=by
 cases a with
 |none=>rfl
 | some a=>cases b with
   |none=>rfl
   |some b=>exact Zgb s a b v u (by simpa [Sc]using h)
theorem Lh{l:List Nat}{s:List V}{d:Option Nat}{v:V}(h:HO d l=true):k_ l s (Fb s d v):=by
 cases d with
 |none=>exact λ_ _=>rfl
 | some d=>
   intro t ht;simp only[HO,Bq,dx,Bm]at h;exact iC s d t v (λe=>h (e▸ht))
theorem k_.symm{l:List Nat}{s b:List V}(h:k_ l s b):k_ l b s:=λt ht=>(h t ht).symm
theorem Wf{d:Option Nat}{a b:List Nat}(h:HO d (a++b)=true):HO d a=true:=by
 cases d with
 |none=>rfl
 |some d=>simp[HO]at h ⊢;exact h.1
theorem W2(b:KP)(f:Bc)(args:List T_)(d:Option Nat)(k:St->Prop)(st:St):AK (.callB b f args) d k st=((args.map (·.ev st.sl)).all V.ok1=true/\Qz st.bx b f (args.map (·.ev st.sl)) st.hp λr h=>k (St.put { st with hp:=h } d r)):=rfl
theorem ID{o:o_}(b:o.isCall=false)(g:o.clearsBox=false)(d:Option Nat)(k:St->Prop)(sl:List V)(bx:List (List V))(hp:Ab):AK o d k ⟨sl,bx,hp⟩=match Af o ⟨sl,bx,hp⟩with|some (v,bx,hp)=>k ⟨Fb sl d v,bx,hp⟩|none=>False:=by
 have e:∀v bx hp,St.put { sl:=o.clears sl,bx,hp } d v=⟨Fb sl d v,bx,hp⟩:=by
  intro v bx hp;have:o.clears sl=sl:=(by cases o<;>first|rfl|simp[o_.clearsBox]at g);rw[this,MQ]
 cases o<;>first|(simp[o_.isCall]at b;done)|(simp only[AK];split<;>simp_all)
theorem mj {p q:o_} {M R:Option Nat} {k:St->Prop} {st:St} (hp1:HO M q.uses=true) (hq1:HO R p.uses=true) (hd:Sc M R=true) (hm:LH p q=true)
 (h:AK p M (AK q R k) st):AK q R (AK p M k) st:=by
 obtain⟨sl,bx,hp⟩:=st;unfold LH at hm;simp only[Ai,Bq]at hm;obtain⟨⟨⟨m1,m2⟩,m3⟩,t⟩:=hm;rw[ID m3 m1]at h;split at h
 ·rename_i v L U A;have D:∀u C G,Af p ⟨sl,C,G⟩=some (v,C,G)->AK p M k ⟨Fb sl R u,C,G⟩=k ⟨Fb (Fb sl M v) R u,C,G⟩:=by
   intro u C G h2;rw[ID m3 m1,ZO (Lh hq1),h2,aL _ _ _ _ _ hd]
  by_cases I:q.isCall=true
  ·
   cases q<;>simp[o_.isCall]at I;rename_i kp f args;have ea:args.map (·.ev (Fb sl M v))=args.map (·.ev sl):=Z2 args (Lh hp1);by_cases N:p.isReadH=true/\kp= .all
   ·
    obtain⟨N,rfl⟩:=N;obtain⟨rfl,rfl,h3⟩:=PL N A;rw[W2]at h ⊢;rw[ea]at h;obtain⟨h1,Q0,h2,h4⟩:=h;refine⟨h1,Q0,h2,λr h' hq=>?_⟩;obtain⟨Y,k2⟩:=h4 r h' hq;refine⟨Y,?_⟩;simp only[MQ]at Y k2 ⊢;rw[D r _ _ (h3 _ h' Y (λ_ _=>rfl))];exact k2
   by_cases O:p.keptBy (.callB kp f args)=true
   ·
    cases kp<;>simp[o_.keptBy]at O;cases p<;>simp at O;rename_i i c n x;obtain⟨rfl,rfl⟩:=O;obtain⟨rfl,rfl,_⟩:=PL rfl A;rw[W2]at h ⊢;rw[ea]at h;obtain⟨h1,Q0,h2,h4⟩:=h;refine⟨h1,Q0,h2,λr h' hq=>?_⟩;obtain⟨Y,k2⟩:=h4 r h' hq;refine⟨Y,?_⟩;simp only[MQ]at Y k2 ⊢;rw[D r _ _ ?_]
    ·exact k2
    obtain⟨hh,A⟩:=WM A;have hh':TE (get (AZ L i) c) (x.ev sl)=true:=hh;rw[l8 hh'];simp only[Af]at A ⊢;generalize x.ev sl=u at *;cases u<;>simp only[Ca,reduceCtorEq]at A;rename_i l o;obtain⟨cs,J,u,e2,y⟩:=A;cases y;generalize get (AZ L i) c=z at *;cases z<;>simp[TE]at hh';have e1':rd h' l o (n.getD 1)=some cs:=by
     unfold rd at J ⊢;cases hl:U[l]? with
     |none=>rw[hl]at J;cases J
     | some b=>
       rw[Y l _ _ (by rw[hh']) (List.getElem?_eq_some_iff.1 hl).1,hl];rw[hl]at J;exact J
    simp[e1',e2]
   have hr:L=bx/\U=hp/\∀h',Af p ⟨sl,bx,h'⟩=some (v,bx,h'):=by
    simp only[o_.isPure,o_.isPush,o_.isApp,o_.isLoadB.eq_def (.callB kp f args),o_.isReadH.eq_def (.callB kp f args),Bool.or_false,LP,Bool.and_false,B7,Ai]at t;rcases t with((t|⟨t,s⟩)|t)|⟨t,_⟩
    ·obtain⟨J,e2,y⟩:=NH t A;exact⟨J,e2,λh'=>y _ _⟩
    ·exact absurd ⟨t,by cases kp<;>simp[o_.isKeep]at s ⊢⟩ N
    ·exact absurd t O
    cases p<;>simp[o_.isLoadB]at t;obtain⟨J,e2,y⟩:=ND A;exact⟨J,e2,λh'=>y _ _ rfl⟩
   obtain⟨rfl,rfl,h3⟩:=hr;rw[W2]at h ⊢;rw[ea]at h;refine⟨h.1,?_⟩;have e:(λr h'=>AK p M k (St.put ⟨sl,L,h'⟩ R r))=(λr h'=>k (St.put ⟨Fb sl M v,L,h'⟩ R r)):=by
    funext r h';rw[MQ,MQ,D r _ _ (h3 h')]
   rw[e];exact h.2
  have j:q.isCall=false:=(by simpa using I);rw[ID j m2]at h;split at h
  ·rename_i u C hpp2 g;rw[ZO (Lh hp1)]at g;rw[ID j m2];have F:∀ {bx' Z},Af q ⟨sl,bx,hp⟩=some (u,bx',Z)->Af p ⟨sl,bx',Z⟩=some (v,C,hpp2)->(match Af q ⟨sl,bx,hp⟩with|some (v,bx,hp)=>AK p M k ⟨Fb sl R v,bx,hp⟩|none=>False):=by
    intro bx' Z J e2;rw[J];simp only;rw[ID m3 m1,ZO (Lh hq1),e2];simp only;rw[<- aL _ _ _ _ _ hd];exact h
   simp only[B7,Ai]at t;rcases t with((((((t|⟨t,s⟩)|t)|⟨t,s⟩)|⟨⟨t,s⟩,m7⟩)|t)|⟨⟨t,s⟩,m6⟩)|⟨t,s⟩
   ·obtain⟨rfl,rfl,y⟩:=NH t A;exact F g (y _ _)
   ·cases q<;>simp[o_.isCall,o_.isKeep]at j s
   ·cases q<;>cases p<;>simp[o_.isCall,o_.keptBy]at j t
   ·cases p<;>simp[o_.isLoadB]at t;rename_i i n x;obtain⟨rfl,rfl,y⟩:=ND A;refine F g (y _ _ ?_);cases q<;>first
     |(have:=(NH rfl g).1;rw[this];done)
     |(have:=(PL rfl g).1;rw[this];done)
     |(have:=(ND g).1;rw[this];done)
     |(refine(Sx rfl g).2 i ?_;simp[o_.writesBox];done)
     |(refine(Sx rfl g).2 i ?_;intro e;simp only[o_.writesBox,Ao]at e;subst e;simp[o_.readsBox,o_.writesBox,PZ]at s;done)
     |(simp[o_.clearsBox]at m2;done)
     |(simp[o_.isCall]at j;done)
     |skip
    ·
     simp only[Af]at g;split at g
     ·split at g
      ·simp only[Ca]at g;obtain⟨_,_,g⟩:=g;cases g;rfl
      cases g
     cases g
    ·
     simp only[Af]at g;split at g
     ·simp only[Ca]at g;obtain⟨⟨_,_⟩,_,g⟩:=g;cases g;rfl
     cases g
   ·obtain⟨rfl,rfl,y⟩:=PL t A;refine F g (y _ _ ?_ λi hi=>?_);case refine_2=>
     rcases s with((s|s)|s)|s
     ·rw[(NH s g).1]
     ·cases q<;>simp[o_.isLoadB]at s;rw[(ND g).1]
     ·rw[(PL s g).1]
     refine(Sx s g).2 i λe=>?_;rw[hi,e]at m7;simp[PZ]at m7
    refine Kept.push ?_;rcases s with((s|s)|s)|s
    ·exact .inl (NH s g).2.1
    ·cases q<;>simp[o_.isLoadB]at s;exact .inl (ND g).2.1
    ·exact .inl (PL s g).2.1
    exact(Sx s g).1
   ·obtain⟨rfl,rfl,y⟩:=NH t g;exact F (y _ _) A
   ·cases q<;>simp[o_.isLoadB]at t;rename_i i n x;obtain⟨rfl,rfl,y⟩:=ND g;refine F (y bx hp ?_) A;refine((Sx s A).2 i ?_).symm;intro e;rw[e]at m6;simp[o_.readsBox,PZ]at m6
   obtain⟨rfl,rfl,y⟩:=ZcC t A;exact F g (y _ _ (Ze4 s g))
  exact h.elim
 exact h.elim
def a_.eff(o:a_)(s:List V):Option o_:=
 match o.guard with
 |none=>some o.op| some (g,want)=>match get s g with
   |.bool b=>if b=want then some o.op else some (.mv (.c (.f7 [])))
   |.f7 []=>some (.mv (.c (.f7 [])))
   |_=>none
theorem PT(o:a_)(k:St->Prop)(st:St):Cr o k st=match o.eff st.sl with|some p=>AK p o.dst k st|none=>False:=by
 unfold Cr a_.eff;cases o.guard with
 |none=>rfl
 | some gw=>
   obtain⟨g,i⟩:=gw;simp only;generalize get st.sl g=u;cases u with
   | bool b=>
     by_cases h:b=i
     ·simp only[Ac h]
     simp only[Ae h];rfl
   |f7 j=>cases j<;>rfl
   |_=>rfl
theorem aM{o:a_}{s i:List V}(h:k_ o.looks s i):o.eff i=o.eff s:=by
 unfold a_.eff;cases j:o.guard with
 |none=>rfl
 | some gw=>
   obtain⟨g,b⟩:=gw;simp only;rw[h g (by simp[a_.looks,j])]
theorem Mq{o:a_}{s:List V}{p:o_}(h:o.eff s=some p):p=o.op\/p= .mv (.c (.f7 [])):=by
 unfold a_.eff at h;split at h
 ·exact .inl (C9 h).symm
 split at h
 ·split at h
  ·exact .inl (C9 h).symm
  exact .inr (C9 h).symm
 ·exact .inr (C9 h).symm
 cases h
theorem bu{o:o_}{d:Option Nat}{k g:St->Prop}{st:St}(j:o.clearsBox=false)(h:∀v bx hp,k ⟨Fb st.sl d v,bx,hp⟩=g ⟨Fb st.sl d v,bx,hp⟩):AK o d k st=AK o d g st:=by
 obtain⟨sl,bx,hp⟩:=st;by_cases i:o.isCall=true
 ·cases o<;>simp[o_.isCall]at i;rename_i n f args;simp only[AK];have e:(λr h'=>k (St.put ⟨sl,bx,h'⟩ d r))=(λr h'=>g (St.put ⟨sl,bx,h'⟩ d r)):=by
   funext r h';rw[MQ];exact h r bx h'
  rw[e]
 have b:o.isCall=false:=by simpa using i
 rw[ID b j,ID b j];split
 ·exact h _ _ _
 rfl
theorem ZbP {i:KP} {f:Bc} {args:List T_} {x:T_} {b g:Option Nat} {k:St->Prop} {st:St} (u:i= .all) (q:HO b x.slots=true) (n:HO g (XV args)=true) (hd:Sc b g=true)
 (h:AK (.callB i f args) b (AK (.mv x) g k) st):AK (.mv x) g (AK (.callB i f args) b k) st:=by
 subst u;obtain⟨sl,bx,hp⟩:=st;rw[ID rfl rfl];simp only[Af];rw[W2]at h ⊢;simp only[Z2 args (Lh n)];obtain⟨h1,A,z,y⟩:=h;refine⟨h1,A,z,λr h' t=>?_⟩;obtain⟨s,j⟩:=y r h' t;refine⟨s,?_⟩;simp only[MQ,ID (o:=.mv x) rfl rfl,Af]at j ⊢;rw[BC (Lh q:k_ x.slots sl (Fb sl b r)),aL _ _ _ _ _ hd]at j;exact j
theorem js{p q:a_}{k:St->Prop}{st:St}(hs:Fp p q=true)(h:Cr p (Cr q k) st):Cr q (Cr p k) st:=by
 unfold Fp at hs;simp only[Ai,B7]at hs;obtain⟨⟨⟨h1,z⟩,F⟩,t|⟨⟨t,Y⟩,y⟩⟩:=hs;case inr=>
  rw[PT]at h ⊢;have A:q.eff st.sl=some q.op:=by
   unfold a_.eff;cases D:q.guard with
   |none=>rfl
   |some g=>rw[D]at y;cases y
  have n:∀f4:St,q.eff f4.sl=some q.op:=by
   intro f4;unfold a_.eff;cases D:q.guard with
   |none=>rfl
   |some g=>rw[D]at y;cases y
  have N:∀f4,Cr q k f4=AK q.op q.dst k f4:=λf4=>(by rw[PT,n]);rw[A];simp only;have U:k_ q.op.uses st.sl st.sl:=λ_ _=>rfl;cases i:q.op<;>simp[o_.isMv,i]at Y;rename_i x;have cb:(o_.mv x).clearsBox=false:=rfl;have u:HO p.dst x.slots=true:=(by have:=Wf h1;rw[i]at this;exact this);cases hp:p.eff st.sl with
  |none=>rw[hp]at h;exact h.elim
  | some p'=>
    rw[hp]at h;simp only at h;rw[i]at N;have Z:Cr q k=AK (.mv x) q.dst k:=funext N;rw[Z]at h;have G:AK (.mv x) q.dst (Cr p k) st=AK (.mv x) q.dst (AK p' p.dst k) st:=
     bu cb λv bx M=>by rw[PT,aM (Lh z)];simp only[hp]
    rw[G];rcases Mq hp with rfl|rfl
    ·cases b:p.op<;>simp[o_.isKeep,b]at t;rename_i R f args;cases R<;>simp at t;rw[b]at h;exact ZbP rfl u (by have:=Wf z;rw[b]at this;exact this) F h
    exact mj u (by cases q.dst<;>rfl) F rfl h
 have j:=t;unfold LH at j;simp only[Ai,Bq]at j;obtain⟨⟨⟨L,J⟩,I⟩,m4⟩:=j;rw[PT]at h ⊢;cases hp:p.eff st.sl with
 |none=>rw[hp]at h;exact h.elim
 | some p'=>
   rw[hp]at h;simp only at h;have O:p'.clearsBox=false:=(by rcases Mq hp with rfl|rfl<;>first|exact L|rfl);have e1:AK p' p.dst (Cr q k) st=AK p' p.dst (λf4=>match q.eff st.sl with|some q'=>AK q' q.dst k f4|none=>False) st:=
    bu O λv bx hp=>by rw[PT,aM (Lh h1)]
   rw[e1]at h;cases s:q.eff st.sl with
   | none=>
     rw[s]at h;simp only at h;have C:p'.isCall=false:=(by rcases Mq hp with rfl|rfl<;>first|exact I|rfl);obtain⟨sl,bx,M⟩:=st;rw[ID C O]at h;split at h<;>exact h
   | some q'=>
     rw[s]at h;simp only at h ⊢;have cq:q'.clearsBox=false:=(by rcases Mq s with rfl|rfl<;>first|exact J|rfl);have G:AK q' q.dst (Cr p k) st=AK q' q.dst (AK p' p.dst k) st:=
      bu cq λv bx M=>by rw[PT,aM (Lh z)];simp only[hp]
     rw[G];refine mj (k:=k) ?_ ?_ F ?_ h
     ·rcases Mq s with rfl|rfl
      ·exact Wf h1
      cases p.dst<;>rfl
     ·rcases Mq hp with rfl|rfl
      ·exact Wf z
      cases q.dst<;>rfl
     rcases Mq hp with rfl|rfl<;>rcases Mq s with rfl|rfl
     ·exact t
     ·exact Zb6 L I rfl rfl
     ·exact Zcs rfl rfl rfl J
     rfl
inductive Mkr where|p|s (n:Nat)
def Mkr.v:Mkr->Nat->V
 |.p,m=>.ptr m 0|.s n,m=>.slice m 0 n
theorem Mkr.inj{a b:Mkr}{m n:Nat}(h:a.v m=b.v n):m=n:=by
 cases a<;>cases b<;>simp[Mkr.v]at h
 ·exact h
 exact h.1
def o_.cst:o_->Option (Mkr×Blk)
 |.allocH zs=>if zs.all V.flat then some (.p,⟨.own,1,zs⟩)else none|.d5 w n zs ps=>if n != 0&&decide (0<w)&&zs.length == n*w&&zs.all V.flat&&(Tb ps).isEmpty then (match DQ [] zs ps with
  |some cs=>if cs.all V.flat then some (.s n,⟨.own,w,cs⟩)else none
  |none=>none)else none
 |_=>none
def a_.cst(o:a_):Option (Mkr×Blk):=match o.guard with|none=>o.op.cst|some _=>none
theorem ZeO{v:V}(h:v.flat=true):v.cell=true:=by cases v<;>first|rfl|cases h
theorem jO{l:List V}(h:l.all V.flat=true):l.all V.cell=true:=by
 rw[Dw]at h ⊢;exact λv b=>ZeO (h v b)
theorem bJ{o:o_}{i:Mkr}{b:Blk}(h:o.cst=some (i,b)):(∀sl bx hp,Af o ⟨sl,bx,hp⟩=some (i.v hp.length,bx,hp++[b]))/\b.cs.all V.flat=true/\b.k= .own/\0<b.w/\o.isCall=false/\o.clearsBox=false:=by
 cases o<;>simp only[o_.cst,reduceCtorEq]at h;case allocH zs=>
  split at h
  ·rename_i g;cases h;refine⟨λsl bx hp=>?_,g,rfl,Nat.one_pos,rfl,rfl⟩;simp only[Af,Ac (jO g)];rfl
  cases h
 case d5 w n zs ps=>
  split at h
  ·rename_i j;simp only[Ai,SB,GZ,Av,A7,List.isEmpty_iff]at j;obtain⟨⟨⟨⟨y,c2⟩,x⟩,u⟩,s⟩:=j;split at h
   ·rename_i cs q;split at h
    ·rename_i g;cases h;refine⟨λsl bx hp=>?_,g,rfl,c2,rfl,rfl⟩;have:DQ sl zs ps=some cs:=(by rw[<- q];exact V7 ps zs (by rw[s];intro t ht;cases ht));simp only[Af,Ae y,Ac (And.intro (jO u) (And.intro x c2)),this];rfl
    cases h
   cases h
  cases h
theorem Rel.mono2{ι ι':AF}{σ σ':Ab}{β:Nat->Nat}{v:V}{x:Value}(k:∀l X_,σ[l]?=some X_->0<X_.w->ι' l=ι l/\∃D,σ'[l]?=some D/\D.w=X_.w)(h:Rel ι σ β v x):Rel ι' σ' β v x:=by
 induction h with
 |undef x=>exact .undef x
 |bool b=>exact .bool b
 |int k n=>exact .int k n
 |str s=>exact .str s
 |b_ a=>exact .b_ a
 | slice l o n c X_ h hn hc g=>
   obtain⟨u,q,h1,j⟩:=k l X_ h g;have:=Rel.slice (ι:=ι') (σ:=σ') (β:=β) l o n c q h1 hn (by rw[u,j];exact hc) (by rw[j];exact g);rwa [u]at this
 | sliceEnd l o X_ h a g=>
   obtain⟨_,q,h1,j⟩:=k l X_ h g;exact .sliceEnd l o q h1 a (by rw[j];exact g)
 |box i o=>exact .box i o
 | ptr l o X_ h g=>
   obtain⟨u,q,h1,j⟩:=k l X_ h g;have:=Rel.ptr (ι:=ι') (σ:=σ') (β:=β) l o q h1 (by rw[j];exact g);rwa [u]at this
 |nilIfc=>exact .nilIfc
 |ifc t v=>exact .ifc t v
 |agg cs ws A C h y=>exact .agg cs ws A C λi v w z g=>y i v w z g
 |f7 cs ws A C h y=>exact .f7 cs ws A C λi v w z g=>y i v w z g
theorem pD{ι ι' ι2:AF}{k h1 y:Ab}{β:Nat->Nat}{v:V}{x x0:Value}(C:∀l X_,k[l]?=some X_->0<X_.w->ι2 l=ι' l/\h1[l]?=some X_/\y[l]?=some X_)(j:v.cell=true)(r:Rel ι' h1 β v x)(u:Rel ι k β v x0):Rel ι2 y β v x:=by
 cases v with
 | slice l o n=>
   obtain⟨q,t,_⟩:=Ge u;have g:=Mk u t;obtain⟨e,F,z⟩:=C l q t g;obtain⟨I,D,j⟩:=Ge r;rw[F]at D;cases D;rcases j with⟨c,rfl,G,c2⟩|⟨rfl,a,rfl⟩
   ·have:=Rel.slice (ι:=ι2) (σ:=y) (β:=β) l o n c q z G (by rw[e];exact c2) g;rwa [e]at this
   exact .sliceEnd l o q z a g
 | ptr l o=>
   obtain⟨⟨q,t⟩,_⟩:=IK u;have g:=Wx u t;obtain⟨e,F,z⟩:=C l q t g;have A:=(IK r).2;have:=Rel.ptr (ι:=ι2) (σ:=y) (β:=β) l o q z g;rw[A,<- e];exact this
 |undef=>cases j
 |box i o=>cases j
 |agg cs=>cases j
 |f7 cs=>cases j
 |bool b=>cases r;exact .bool _
 |int k n=>cases r;exact .int _ _
 |str s=>cases r;exact .str _
 |b_=>cases r;exact .b_ _
 |ifc b=>cases r<;>first|exact .nilIfc|exact .ifc _ _
theorem flat2{ι ι2:AF}{h1 g:Ab}{β:Nat->Nat}{v:V}{x:Value}(b:v.flat=true)(r:Rel ι h1 β v x):Rel ι2 g β v x:=by
 cases v<;>first|(cases b;done)|(cases r<;>first|exact .bool _|exact .int _ _|exact .str _|exact .b_ _|exact .nilIfc|exact .ifc _ _)
section
variable {P:Program} {ι0:AF} {σ0:Ab} {w0:World} {Φ:Phm} {st:St} {a:Act} {w:World} {Q:Exit->Act->World->Prop}
theorem ZbB {o:Oper} {ao:o_} {mk:Mkr} {b:Blk} {n:Nat} {d:Option Nat} {K:Act->World->Prop} (hc:ao.cst=some (mk,b)) (A:Fa P o.op ao=true) (hn:Φ n=some b) (hσ:σ0.length<=n) (hrep:CZ ι0 σ0 w0 Φ st a w) (hd:o.dst=d)
 (hK:∀a' w',CZ ι0 σ0 w0 (λm=>if m=n then none else Φ m) (st.put d (mk.v n)) a' w'->K a' w'):o.wp P a w K Q:=by
 obtain⟨hdf,hH,ι,β,H,B,S,T⟩:=hrep;obtain⟨c1,c2,c3,c4,_,_⟩:=bJ hc;generalize U:kill Φ st.hp=k at H B S T;have hlen:k.length=st.hp.length:=by rw[<- U,El]
 have hnl:n<k.length:=by rw[hlen];exact hH.lt hn
 have hkn:k[n]?=some Nf:=by rw[<- U,Gh,hH n b hn,hn];rfl
 obtain⟨nx,x,w',ι',β',hrun,hnx,H',_,_,hv,T'⟩:=mh (st:=⟨st.sl,[],k⟩) (w0:=w) (β:=β) H ⟨by simp,by simp,by simp,by simp⟩ S (.refl ι k w) A (c1 st.sl [] k);have hcl:ao.clears st.sl=st.sl:=by cases ao<;>first|rfl|cases hc
 have Y:∀l,l<k.length->(k++[b])[l]?=k[l]?:=λl q=>Bi q;have h1m:(k++[b])[k.length]?=some b:=by simp
 have D:(k.set n b)[n]?=some b:=by simp[hnl]
 have J:∀l,l≠n->(k.set n b)[l]?=k[l]?:=λl q=>by rw[G3,Ae (HB q)]
 have t:kill (λm=>if m=n then none else Φ m) st.hp=k.set n b:=by
  apply IU;intro l;by_cases q:l=n
  ·subst q;rw[Gh,D,hH _ b hn];simp
  rw[J l q,<- U,Gh,Gh,Ae q]
 have hH2:Has (λm=>if m=n then none else Φ m) st.hp:=λl c e=>by
  simp only at e;split at e
  ·cases e
  exact hH l c e
 generalize hι:(λl=>if l=n then ι' k.length else ι' l)=ι2;have ιn:ι2 n=ι' k.length:=by rw[<- hι];simp
 have ιl:∀l,l≠n->ι2 l=ι' l:=λl q=>by rw[<- hι];simp[q]
 have N:∀l X_,k[l]?=some X_->0<X_.w->l≠n:=λl X_ g O e=>by
  subst e;rw[hkn]at g;cases g;simp[Nf]at O
 have hg:∀l X_,k[l]?=some X_->0<X_.w->ι2 l=ι' l/\(k++[b])[l]?=some X_/\(k.set n b)[l]?=some X_:=λl X_ g O=>
  ⟨ιl l (N l X_ g O),by rw[Y l (Bw g)];exact g,by rw[J l (N l X_ g O)];exact g⟩
 have hm:∀l X_,k[l]?=some X_->0<X_.w->ι2 l=ι l/\∃G,(k.set n b)[l]?=some G/\G.w=X_.w:=λl X_ g O=>
  ⟨by rw[ιl l (N l X_ g O),T'.keeps.place l X_ g],X_,(hg l X_ g O).2.2,rfl⟩
 have z:∀l X_,(k.set n b)[l]?=some X_->∃j,(k++[b])[j]?=some X_/\ι2 l=ι' j/\((l=n/\j=k.length/\X_=b)\/(l≠n/\j=l/\k[l]?=some X_)):=λl X_ g=>by
  by_cases q:l=n
  ·subst q;rw[D]at g;cases g;exact⟨k.length,h1m,ιn,.inl ⟨rfl,rfl,rfl⟩⟩
  rw[J l q]at g;exact⟨l,by rw[Y l (Bw g)];exact g,ιl l q,.inr ⟨q,rfl,g⟩⟩
 have H2:HRel ι2 (k.set n b) w':=by
  refine⟨λl X_ q hkd i v R=>?_,λl X_ q A=>?_,λl l' X_ G M q hl' A hk'=>?_,λl X_ q A=>?_⟩
  ·obtain⟨j,C,F,u⟩:=z l X_ q;obtain⟨Z,x,q2,q3⟩:=H'.cells j X_ C hkd i v R;refine⟨Z,x,by rw[F];exact q2,λβ=>?_⟩;rcases u with⟨_,_,rfl⟩|⟨_,_,g⟩
   ·exact flat2 (Dw.1 c2 v (HL R)) (q3 β)
   obtain⟨_,x0,_,q4⟩:=H.cells l X_ g hkd i v R;exact pD hg Z (q3 β) (q4 β)
  ·obtain⟨j,C,F,_⟩:=z l X_ q;rw[F];exact H'.own j X_ C A
  ·obtain⟨j,C,F,u⟩:=z l X_ q;obtain⟨j',hj',ej',I⟩:=z l' G hl';rw[F,ej'];refine H'.apart j j' X_ G (λe=>?_) C hj' A hk';rcases u with⟨a1,a2,_⟩|⟨a1,a2,a3⟩<;>rcases I with⟨b1,b2,_⟩|⟨b1,b2,b3⟩
   ·exact M (by rw[a1,b1])
   ·have:=Bw b3;omega
   ·have:=Bw a3;omega
   exact M (by omega)
  obtain⟨j,C,F,_⟩:=z l X_ q;rw[F];exact H'.there j X_ C A
 have B':=jL B T';have B2:BRel ι2 (k.set n b) β st.bx w0 w':=by
  refine⟨λi cs hi N=>?_,B'.new,B'.apart,λi cs l X_ hi N q A=>?_⟩
  ·obtain⟨arr,e,p1,p2,p3⟩:=B'.cells i cs hi N;refine⟨arr,e,p1,p2,λj v hv=>?_⟩;obtain⟨Z,x,q2,q3⟩:=p3 j v hv;obtain⟨_,_,_,_,p4⟩:=B.cells i cs hi N;obtain⟨_,x0,_,q4⟩:=p4 j v hv;exact⟨Z,x,q2,λβ'=>pD hg Z (q3 β') (q4 β')⟩
  obtain⟨j,C,F,_⟩:=z l X_ q;rw[F];exact B'.heap i cs j X_ hi N C A
 have S2:SRel ι2 (k.set n b) β st.sl a.tmps:=⟨S.1,λi=>(S.2 i).mono2 hm⟩;have L:=T.trans T';have y:∀l X_,σ0[l]?=some X_->l≠n/\(k.set n b)[l]?=(k++[b])[l]?:=λl X_ g=>by
  have q:l≠n:=(by have:=Bw g;omega);have hlk:l<k.length:=(by have:=Bw g;omega);exact⟨q,by rw[J l q,Y l hlk]⟩
 have T3:Step ι0 σ0 w0 ι2 (k.set n b) w':={
  keeps:=⟨λl X_ g=>by rw[ιl l (y l X_ g).1];exact L.keeps.place l X_ g,λl X_ g=>by rw[(y l X_ g).2];exact L.keeps.width l X_ g⟩
  kinds:=λl X_ G g hb'=>L.kinds l X_ G g (by rw[<- (y l X_ g).2];exact hb')
  fresh:=λl G q g A=>by
   obtain⟨j,C,F,u⟩:=z l G g;rw[F];exact L.fresh j G (by rcases u with⟨_,h,_⟩|⟨_,h,_⟩<;>omega) C A
  frame:=L.frame,size:=L.size,os:=L.os,output:=L.output,tape:=L.tape }
 have hv2:Rel ι2 (k.set n b) β (mk.v n) x:=by
  cases mk with
  | p=>
    have h2':=(IK (show Rel ι' (k++[b]) β' (.ptr k.length 0) x from hv)).2;have:=Rel.ptr (ι:=ι2) (σ:=k.set n b) (β:=β) n 0 b D c4;rw[h2',<- ιn];exact this
  | s c0=>
    have hv':Rel ι' (k++[b]) β' (.slice k.length 0 c0) x:=hv;obtain⟨b1,g3,hcc⟩:=Ge hv';rw[h1m]at g3;cases g3;rcases hcc with⟨c,rfl,e1,e2⟩|⟨rfl,a,rfl⟩
    ·have:=Rel.slice (ι:=ι2) (σ:=k.set n b) (β:=β) n 0 c0 c b D e1 (by rw[ιn];exact e2) c4;rwa [ιn]at this
    exact .sliceEnd n 0 b D a c4
 subst hd;unfold Oper.wp;rw[hrun];have fin:CZ ι0 σ0 w0 (λm=>if m=n then none else Φ m) (St.put ⟨st.sl,st.bx,st.hp⟩ o.dst (mk.v n)) (a.put o.dst x) w':=
  Qh hdf hH2 (by rw[t];exact H2) (by rw[t];exact B2) (by rw[t];exact S2) (by rw[t];exact hv2) (by rw[t];exact T3)
 rcases hnx with rfl|⟨rfl,rfl⟩
 ·exact hK _ _ fin
 exact hK _ _ fin
theorem Ze2(n:CZ ι0 σ0 w0 Φ st a w)(b:Blk):CZ ι0 σ0 w0 (λm=>if m=st.hp.length then some b else Φ m) ⟨st.sl,st.bx,st.hp++[b]⟩ a w:=by
 obtain⟨u,C,ι,β,H,B,S,T⟩:=n;have q:kill (λm=>if m=st.hp.length then some b else Φ m) (st.hp++[b])=kill Φ st.hp++[Nf]:=by
  apply IU;intro l;rw[Gh];rcases Nat.lt_trichotomy l st.hp.length with g|g|g
  ·rw[Bi g,Bi (by rw[El];exact g),Gh,Ae (by omega)]
  ·subst g;rw[Da (BH _),Da (by rw[El];exact BH _)];simp[El]
  rw[BO (by simp;omega),BO (by simp[El];omega)];rfl
 have y:Has (λm=>if m=st.hp.length then some b else Φ m) (st.hp++[b]):=λl c e=>by
  simp only at e;split at e
  ·rename_i g;cases e;subst g;simp
  rw[Bi (C.lt e)];exact C l c e
 have s:Keeps ι (kill Φ st.hp) ι (kill Φ st.hp++[Nf]):=⟨λ_ _ _=>rfl,λl c h=>⟨c,by rw[Bi (Bw h)];exact h,rfl⟩⟩;have j:∀ {l:Nat} {c:Blk},(kill Φ st.hp++[Nf])[l]?=some c->c.k≠.dead->(kill Φ st.hp)[l]?=some c:=λh hd=>by
  rcases Gf h with⟨_,h⟩|⟨_,rfl⟩
  ·exact h
  exact absurd rfl hd
 refine⟨u,y,ι,β,?_,?_,?_,?_⟩
 ·rw[q];refine⟨λl c g hd i v G=>?_,λl c g hd=>H.own l c (j g (by rw[hd];decide)) hd,λl l' c c' z g t hd f_=>H.apart l l' c c' z (j g (by rw[hd];decide)) (j t f_) hd f_,λl c g hd=>H.there l c (j g hd) hd⟩;obtain⟨A,x,F,D⟩:=H.cells l c (j g hd) hd i v G;exact⟨A,x,F,λβ=>(D β).cellMono s A⟩
 ·rw[q];exact B.mono s (λ_ _ _ _=>rfl) (BH _) λi cs l c hi z g hd=>B.heap i cs l c hi z (j g hd) hd
 ·rw[q];exact S.mono s
 rw[q];refine T.trans { Step.refl ι (kill Φ st.hp) w with keeps:=s,kinds:=λl c c' h h'=>.inl ?_,fresh:=λl c g h hd=>?_ }
 ·rw[Bi (Bw h),h]at h';cases h';rfl
 have:=Bw (j h hd);omega
theorem Zgg(b:CZ ι0 σ0 w0 Φ st a w):σ0.length<=st.hp.length:=by
 obtain⟨_,_,ι,β,H,B,S,T⟩:=b;rcases Bx st.hp.length σ0.length with h|h
 ·obtain⟨X_,g⟩:=PY h;obtain⟨i,h1,_⟩:=T.keeps.width _ X_ g;have:=Bw h1;rw[El]at this;omega
 exact h
def M3:Phm->Nat->List Blk->Phm
 |Φ,_,[]=>Φ|Φ,n,b::r=>M3 (λm=>if m=n then some b else Φ m) (n+1) r
theorem jI:∀(g:List Blk) {Φ:Phm} {st:St},CZ ι0 σ0 w0 Φ st a w->CZ ι0 σ0 w0 (M3 Φ st.hp.length g) ⟨st.sl,st.bx,st.hp++g⟩ a w
 |[],Φ,st,h=>by simpa [M3]using h
 | b::r,Φ,st,h=>by
   have:=jI r (Ze2 h b);simpa [M3]using this
end
def LX(o:a_)(v:V):a_:={ o with op:=.mv (.c v) }
def Cl:List a_->Nat->List a_
 |[],_=>[]| o::r,n=>match o.cst with
   |some (mk,_)=>LX o (mk.v n)::Cl r (n+1)
   |none=>o::r
def Gx:List a_->List Blk
 |[]=>[]| o::r=>match o.cst with
   |some (_,b)=>b::Gx r
   |none=>[]
def Ft:List a_->Nat->a_->Nat->Blk->Prop
 |[],_,_,_,_=>False| o::r,n,ao,m,b=>match o.cst with
   |some (mk,b0)=>(ao=LX o (mk.v n)/\m=n/\b=b0)\/Ft r (n+1) ao m b
   |none=>False
theorem aE{k:St->Prop}{bx:List (List V)}:∀(l:List a_) (sl:List V) (h:Ab),BI l k ⟨sl,bx,h⟩->BI (Cl l h.length) k ⟨sl,bx,h++Gx l⟩
 |[],sl,h,e=>by simpa [Cl,Gx]using e
 | o :: r,sl,h,e=>by
   unfold Cl Gx;cases i:o.cst with
   |none=>simpa using e
   | some p=>
     obtain⟨j,b⟩:=p;have g:o.guard=none/\o.op.cst=some (j,b):=by
      unfold a_.cst at i;split at i
      ·rename_i g;exact⟨g,i⟩
      cases i
     obtain⟨s,_,_,_,q,n⟩:=bJ g.2;simp only;unfold BI Cr at e;rw[g.1]at e;simp only at e;rw[ID q n,s]at e;simp only at e;have:=aE r _ _ e;rw[Cb]at this;unfold BI Cr LX;simp only[g.1,AK,Af,o_.clears,T_.ev,MQ];simpa using this
theorem Oe:∀ {l:List a_} {n:Nat} {i:a_} {m:Nat} {b:Blk},Ft l n i m b->i∈Cl l n/\n<=m/\∃o∈l,∃g,o.cst=some (g,b)/\i=LX o (g.v m)
 |[],_,_,_,_,h=>h.elim
 | o :: r,n,i,m,b,h=>by
   unfold Ft at h;unfold Cl;cases j:o.cst with
   |none=>rw[j]at h;exact h.elim
   | some p=>
     obtain⟨g,u⟩:=p;rw[j]at h;simp only at h ⊢;rcases h with⟨rfl,rfl,rfl⟩|h
     ·exact⟨by simp,BH _,o,by simp,g,j,rfl⟩
     obtain⟨h1,t,o',s,q⟩:=Oe h;exact⟨by simp[h1],by omega,o',by simp[s],q⟩
theorem kZ:∀ {l:List a_} {n:Nat} {j g:a_} {m:Nat} {b i:Blk},Ft l n j m b->Ft l n g m i->j=g/\b=i
 |[],_,_,_,_,_,_,h,_=>h.elim
 | o :: r,n,j,g,m,b,i,h,h'=>by
   unfold Ft at h h';cases q:o.cst with
   |none=>rw[q]at h;exact h.elim
   | some p=>
     obtain⟨s,t⟩:=p;rw[q]at h h';simp only at h h';rcases h with⟨rfl,rfl,rfl⟩|h
     ·rcases h' with⟨rfl,_,rfl⟩|h'
      ·exact⟨rfl,rfl⟩
      have:=(Oe h').2.1;omega
     rcases h' with⟨rfl,rfl,rfl⟩|h'
     ·have:=(Oe h).2.1;omega
     exact kZ h h'
theorem ZhP{l:List a_}{n:Nat}{i:a_}{m g:Nat}{b s:Blk}(h:Ft l n i m b)(h':Ft l n i g s):m=g:=by
 obtain⟨_,_,o,_,t,_,e⟩:=Oe h;obtain⟨_,_,o',_,j,_,q⟩:=Oe h';rw[q]at e;have:=congrArg a_.op e;simp only[LX,o_.mv.injEq,T_.c.injEq]at this;exact(Mkr.inj this).symm
theorem nr:∀ {l:List a_} {n:Nat} {g:a_},g∈Cl l n->(∃m b,Ft l n g m b)\/g∈l
 |[],_,_,h=>by simp[Cl]at h
 | o :: r,n,g,h=>by
   unfold Cl at h;unfold Ft;cases i:o.cst with
   |none=>rw[i]at h;exact .inr h
   | some p=>
     obtain⟨q,j⟩:=p;rw[i]at h;simp only[Cu]at h ⊢;rcases h with rfl|h
     ·exact .inl ⟨n,j,.inl ⟨rfl,rfl,rfl⟩⟩
     rcases nr h with⟨m,b,h⟩|h
     ·exact .inl ⟨m,b,.inr h⟩
     exact .inr (.inr h)
theorem mV:∀(l:List a_) (n:Nat) (Φ:Phm),(∀m b,Φ m=some b->m<n)->∀m b,M3 Φ n (Gx l) m=some b↔Φ m=some b\/∃g∈Cl l n,Ft l n g m b
 |[],n,Φ,_,m,b=>by simp[Gx,M3,Cl]
 | o :: r,n,Φ,hΦ,m,b=>by
   unfold Gx Cl Ft;cases j:o.cst with
   |none=>simp[M3]
   | some p=>
     obtain⟨i,q⟩:=p;simp only[M3];rw[mV r (n+1) _ (λm b h=>by
      split at h
      ·omega
      have:=hΦ m b h;omega) m b]
     constructor
     ·rintro(h|⟨g,h1,h2⟩)
      ·split at h
       ·rename_i hm;cases h;exact .inr ⟨_,by simp,.inl ⟨rfl,hm,rfl⟩⟩
       exact .inl h
      exact .inr ⟨g,by simp[h1],.inr h2⟩
     rintro(h|⟨g,h1,⟨rfl,rfl,rfl⟩|h2⟩)
     ·left;have:=hΦ m b h;rw[Ae (by omega)];exact h
     ·left;simp
     exact .inr ⟨g,(Oe h2).1,h2⟩
def D4(o:a_):a_:=match o.op with
 |.mv (.c _)=>LX o .undef|_=>o
theorem JB(o:a_):(D4 o).id=o.id/\(D4 o).anc=o.anc/\(D4 o).dst=o.dst/\(D4 o).guard=o.guard:=by
 unfold D4;split<;>exact⟨rfl,rfl,rfl,rfl⟩
theorem SL:∀(l:List a_) (n b:Nat),(Cl l n).map D4=(Cl l b).map D4
 |[],_,_=>rfl
 | o :: r,n,b=>by
   unfold Cl;cases o.cst with
   |none=>rfl
   | some p=>
     simp only[Cf,SL r (n+1) (b+1)];rfl
theorem bP:∀(l:List a_) (n:Nat),(Cl l n).map (·.id)=l.map (·.id)/\(Cl l n).length=l.length
 |[],_=>⟨rfl,rfl⟩
 | o :: r,n=>by
   unfold Cl;cases o.cst with
   |none=>exact⟨rfl,rfl⟩
   | some p=>
     obtain⟨h1,b⟩:=bP r (n+1);exact⟨by simp only[Cf,h1];rfl,by simp[b]⟩
theorem ZgX(p q:a_):Fp (D4 p) (D4 q)=Fp p q:=by
 have h1:∀q,Fp (D4 p) q=Fp p q:=by
  intro q;unfold D4;split
  ·rename_i v b;obtain⟨i,n,g,j,pa⟩:=p;simp only at b;subst b;rfl
  rfl
 rw[h1];unfold D4;split
 ·rename_i v b;obtain⟨i,n,g,j,pa⟩:=q;simp only at b;subst b;rfl
 rfl
end
end Go.Ag
