/- Part 1 of what FnExactTapKeys needs. No conditions. -/
import GoSem.Core.View
import Derived.Orders
import GoSem.Claims
import Derived.Laws.AppendOwn
import Derived.Laws.MakeOwn
import Derived.Laws.Cells
import Derived.Laws.Strings
import Derived.Laws.StructEq
import Derived.Laws.Slices
import Derived.Laws.Concat
import Derived.Laws.BytesString
import Derived.Laws.Pointers
import Derived.Laws.CopyRow
import Derived.Laws.Rows
namespace Go.Ag
set_option linter.unusedSimpArgs false
set_option linter.unusedVariables false
noncomputable section
abbrev Nx:=@Array.getD_eq_getD_getElem?
abbrev UH:=@Array.getElem?_setIfInBounds
abbrev Gf:=@Bool.and_eq_false_iff
abbrev Aj:=@Bool.and_eq_true
abbrev DJ:=@Bool.and_self
abbrev Mb:=@Bool.and_true
abbrev Kh:=@Bool.eq_iff_iff
abbrev Kj:=@Bool.false_and
abbrev AZ:=@Bool.false_eq_true
abbrev JG:=@Bool.not_eq_false
abbrev B7:=@Bool.not_eq_false'
abbrev GI:=@Bool.not_eq_true
abbrev Br:=@Bool.not_eq_true'
abbrev Jw:=@Bool.not_not
abbrev GH:=@Bool.not_true
abbrev Cl:=@Bool.or_eq_false_iff
abbrev Ce:=@Bool.or_eq_true
abbrev Hv:=@Bool.true_and
abbrev Ns:=@Int.natCast_zero
abbrev CX:=@Int.ofNat_lt
abbrev AG:=@Int.toNat_natCast
abbrev F7:=@List.all_cons
abbrev DE:=@List.all_eq_true
abbrev YC:=@List.all_nil
abbrev Cj:=@List.append_assoc
abbrev Rm:=@List.append_nil
abbrev T4:=@List.append_of_mem
abbrev GJ:=@List.cons.injEq
abbrev Dz:=@List.cons_append
abbrev eO:=@List.contains_eq_mem
abbrev Rh:=@List.drop_eq_getElem_cons
abbrev Hy:=@List.drop_zero
abbrev Dq:=@List.eq_nil_of_length_eq_zero
abbrev Ro:=@List.exists_mem_of_ne_nil
abbrev YB:=@List.ext_getElem
abbrev JB:=@List.ext_getElem?
abbrev Yz:=@List.extract_eq_take_drop
abbrev Ig:=@List.flatten_cons
abbrev C0:=@List.getD_eq_getElem?_getD
abbrev Bp:=@List.getElem?_append_left
abbrev Dj:=@List.getElem?_append_right
abbrev T5:=@List.getElem?_cons_succ
abbrev L4:=@List.getElem?_drop
abbrev Bc:=@List.getElem?_eq_getElem
abbrev BR:=@List.getElem?_eq_none
abbrev Im:=@List.getElem?_map
abbrev fb:=@List.getElem?_mapIdx
abbrev Kg:=@List.getElem?_of_mem
abbrev Hw:=@List.getElem?_set
abbrev ft:=@List.getElem?_set_self
abbrev JC:=@List.getElem?_take
abbrev OV:=@List.getElem?_take_of_lt
abbrev Fc:=@List.getElem_mem
abbrev Ik:=@List.getElem_of_mem
abbrev CM:=@List.length_append
abbrev A0:=@List.length_cons
abbrev Nk:=@List.length_drop
abbrev Bh:=@List.length_map
abbrev A7:=@List.length_nil
abbrev C9:=@List.length_take
abbrev Gb:=@List.map_append
abbrev Cm:=@List.map_cons
abbrev Nq:=@List.map_nil
abbrev YY:=@List.map_take
abbrev CI:=@List.mem_append
abbrev eS:=@List.mem_append_left
abbrev eV:=@List.mem_append_right
abbrev CE:=@List.mem_cons
abbrev Hx:=@List.mem_cons_self
abbrev Jz:=@List.mem_map_of_mem
abbrev Il:=@List.mem_of_getElem?
abbrev LZ:=@List.mem_of_mem_take
abbrev CL:=@List.nil_append
abbrev Rn:=@List.nodup_append
abbrev Nr:=@List.nodup_cons
abbrev YS:=@List.size_toArray
abbrev Yr:=@List.take_add_one
abbrev F6:=@List.take_length
abbrev Ui:=@List.take_of_length_le
abbrev fy:=@List.take_succ_cons
abbrev Ug:=@Nat.add_assoc
abbrev D2:=@Nat.add_mul
abbrev eW:=@Nat.add_right_comm
abbrev Fg:=@Nat.add_zero
abbrev O9:=@Nat.div_add_mod
abbrev T9:=@Nat.div_lt_iff_lt_mul
abbrev fq:=@Nat.eq_zero_or_pos
abbrev Dp:=@Nat.le_of_ble_eq_true
abbrev BN:=@Nat.le_refl
abbrev CW:=@Nat.le_trans
abbrev Ih:=@Nat.lt_of_lt_of_le
abbrev Bz:=@Nat.lt_or_ge
abbrev Ua:=@Nat.lt_succ_self
abbrev Ii:=@Nat.mod_lt
abbrev LX:=@Nat.mul_comm
abbrev Hz:=@Nat.mul_le_mul_right
abbrev Uc:=@Nat.mul_one
abbrev Pa:=@Nat.not_lt_zero
abbrev FF:=@Nat.one_mul
abbrev Yw:=@Nat.sub_self
abbrev Nc:=@Nat.sub_zero
abbrev OS:=@Nat.succ_mul
abbrev BJ:=@Nat.zero_add
abbrev Ec:=@Nat.zero_le
abbrev LW:=@Nat.zero_mul
abbrev Ic:=@Ne.symm
abbrev Ci:=@Option.bind_eq_some_iff
abbrev Jn:=@Option.bind_some
abbrev Jr:=@Option.getD_some
abbrev Ch:=@Option.map_eq_some_iff
abbrev Cw:=@Option.map_some
abbrev Di:=@Option.some.inj
abbrev Ap:=@Option.some.injEq
abbrev Aq:=@Prod.mk.injEq
abbrev Dy:=@Result.andThen_ok
abbrev Ed:=@Sem.run_bind
abbrev Rc:=@Sem.run_pure
abbrev Yf:=@World.cell?_of_block
abbrev Ib:=@and_true
abbrev Ka:=@beq_eq_false_iff_ne
abbrev Bb:=@beq_iff_eq
abbrev TV:=@bne_iff_ne
abbrev H5:=@cond_false
abbrev Ia:=@cond_true
abbrev C7:=@decide_eq_false
abbrev Bn:=@decide_eq_false_iff_not
abbrev FC:=@decide_eq_true
abbrev Ay:=@decide_eq_true_eq
abbrev A5:=@if_false
abbrev Ae:=@if_neg
abbrev Ad:=@if_pos
abbrev AX:=@if_true
abbrev Hu:=@ne_eq
abbrev ON:=@not_true_eq_false
abbrev dF:=@run_bytesToString
abbrev Yg:=@run_sliceBound
abbrev T1:=@size_madeCells
abbrev GD:=@true_and
inductive V where
 |undef|bool (b:Bool)|int (k:IntKind) (n:Int)|str (s:List UInt8)|X_|slice (l o n:Nat)|box (i o:Nat)|ptr (l o:Nat)|ifc (nil:Bool)|agg (cs:List V)|f8 (vs:List V)
 deriving Inhabited
inductive BK where
 |ro|own|dead
 deriving DecidableEq
structure Blk where
 k:BK
 w:Nat
 cs:List V
abbrev Ac:=List Blk
structure St where
 sl:List V
 bx:List (List V)
 hp:Ac
abbrev Bg:=List V->Ac->(V->Ac->Prop)->Prop
inductive T_ where
 |t (n:Nat)|c (v:V)
inductive KP where
 |no|all|box (i c:Nat)
inductive p_ where
 |mv (x:T_)|z_ (x:T_)|pick (c a b:T_)|d7 (i:Nat) (zs:List V)|boxB (i n:Nat) (x:T_)|allocH (zs:List V)|boxH (n:Nat) (x:T_)|build (zs:List V) (ps:List (Nat×Nat×T_))|mkSlice (w:Nat) (z:List V) (len:T_)|d4 (w n:Nat) (zs:List V) (ps:List (Nat×Nat×T_))|d6 (i:Nat) (n:Option Nat) (a:T_)|g9 (n:Option Nat) (a:T_)|loadX (i c:Nat) (n:Option Nat) (a:T_)|U_ (i n:Nat) (a x:T_)|f6 (n:Nat) (a x:T_)|bin (op:BinOp) (x y:T_)|eqB (neg:Bool) (x y:T_)|eqN (neg:Bool) (x y:T_)|eqA (n:Nat) (neg:Bool) (x y:T_)|un (op:UnOp) (x:T_)|conv (k:IntKind) (x:T_)|bstr (x:T_)|slice (w:Nat) (x:T_) (lo hi:Option T_)|substr (x:T_) (lo hi:Option T_)|f5 (off:Nat) (a:T_)|field (off:Nat) (n:Option Nat) (x:T_)|m_ (w:Nat) (x i:T_)|index (x i:T_)|len (x:T_)|lenT (x:T_)|app (w:Nat) (x y:T_)|appN (w:Nat) (x y:T_)|minI (x y:T_)|maxI (x y:T_)|extract (x:T_) (i:Nat)|callB (kp:KP) (f:Bg) (args:List T_)
@[reducible] def p_.call (f:Bg) (args:List T_):p_:=.callB .no f args
structure c_ where
 id:Nat
 dst:Option Nat
 op:p_
 guard:Option (Nat×Bool)
 anc:List Nat
inductive ACode where
 |skip|region (ops:List c_)|regionU (ops:List c_)|seq (a b:ACode)|cond (c:T_) (a b:ACode)|block (id:Nat) (a:ACode)|loop (live:List Nat) (a:ACode)|exit (id:Nat)|ret
inductive AExit where
 |normal|exit (id:Nat)|ret
inductive ARes where
 |tmp (t:Nat)|cell (t:Nat) (n:Option Nat)
structure AFun where
 nparams:Nat
 nslots:Nat
 nbox:Nat
 pure:Bool
 res:List ARes
 body:ACode
def get:List V->Nat->V
 |[],_=>.undef|x::_,0=>x|_::r,n+1=>get r n
def put:List V->Nat->V->List V
 |[],_,_=>[]|_::r,0,v=>v::r|x::r,n+1,v=>x::put r n v
def A3:List (List V)->Nat->List V
 |[],_=>[]|x::_,0=>x|_::r,n+1=>A3 r n
def C6:List (List V)->Nat->List V->List (List V)
 |[],_,_=>[]|_::r,0,v=>v::r|x::r,n+1,v=>x::C6 r n v
def Rs(bx:List (List V)):KP->Bg->Bg
 |.no,f=>f|.all,f=>λargs h Q=>∃b:V->Ac->Prop,f args h b/\∀r h',b r h'->(∀l,l<h.length->h'[l]?=h[l]?)/\Q r h'
 |.box i c,f=>λargs h Q=>∃b:V->Ac->Prop,f args h b/\∀r h',b r h'->(∀l o n,get (A3 bx i) c= .slice l o n->l<h.length->h'[l]?=h[l]?)/\Q r h'
def UK:V->V->Bool
 |.slice l _ _,.ptr l' _=>l == l'|_,_=>false
def e_:List V->Nat->List V->List V
 |cs,0,[]=>cs|[],0,_::_=>[]|_::r,0,v::vs=>v::e_ r 0 vs|[],_+1,_=>[]|c::r,n+1,vs=>c::e_ r n vs
def V.cells:V->List V
 |.agg cs=>cs|v=>[v]
def V.cell:V->Bool
 |.bool _|.int ..|.str _|.X_|.slice ..|.ptr ..|.ifc _=>true|_=>false
def V.flat:V->Bool
 |.bool _|.int ..|.str _|.X_|.ifc _=>true|_=>false
def V.flat1:V->Bool
 |.agg cs=>cs.all V.flat|v=>v.flat
def V.flat2:V->Bool
 |.f8 vs=>vs.all V.flat1|v=>v.flat1
def V.ok1:V->Bool
 |.agg cs=>cs.all V.cell|v=>v.cell
def T_.ev(s:List V):T_->V
 |.t n=>get s n|.c v=>v
def V.isBox(i:Nat):V->Bool
 |.box j _=>i == j|_=>false
def r_(i:Nat):List V->List V
 |[]=>[]|v::r=>(if v.isBox i then .undef else v)::r_ i r
def keep(live:List Nat):Nat->List V->List V
 |_,[]=>[]|n,v::r=>(if live.contains n then v else .undef)::keep live (n+1) r
def St.put(st:St)(d:Option Nat)(v:V):St:=
 match d with
 |none=>st|some d=>{ st with sl:=Ag.put st.sl d v }
def rd(h:Ac)(l o n:Nat):Option (List V):=
 match h[l]? with
 |some b=>if b.k≠.dead/\o+n<=b.cs.length then some ((b.cs.drop o).take n)else none|none=>none
def wr(h:Ac)(l o:Nat)(g:List V):Option Ac:=
 match h[l]? with
 |some b=>if b.k= .own/\o+g.length<=b.cs.length then some (h.set l { b with cs:=e_ b.cs o g })else none|none=>none
def AE(n:Nat):Prop:=n<=2^40
instance (n:Nat):Decidable (AE n):=inferInstanceAs (Decidable (n<=2^40))
def EO(h:Ac)(l:Nat):Option Nat:=
 match h[l]? with
 |some b=>some b.w|none=>none
def DZ(h:Ac)(w:Nat):V->Option (List V×Nat)
 |.X_=>some ([],0)|.slice l o n=>(rd h l o (n*w)).map λcs=>(cs,n)
 |.str s=>if w=1 then some (s.map λb=>.int .u8 b.toNat,s.length)else none
 |_=>none
def app (h:Ac)(w:Nat)(x y:V):Option (V×Ac):=
 match DZ h w y with
 |none=>none| some (new,k)=>
   match x with
   | .X_=>
     if k=0 then some (.X_,h)
     else if AE (k*w)then some (.slice h.length 0 k,h++[⟨.own,w,new⟩])else none
   | .slice l o n=>
     if k=0 then some (.slice l o n,h)
     else match h[l]? with
      | some b=>
        if b.k= .own/\b.w=w/\o=0/\n*w<=b.cs.length/\AE ((n+k)*w)then
         some (.slice h.length 0 (n+k),h.set l ⟨.dead,w,[]⟩++[⟨.own,w,b.cs.take (n*w)++new⟩])
        else none
      |none=>none
   |_=>none
def DP(z:List V):Nat->List V
 |0=>[]|n+1=>z++DP z n
def Em(op:BinOp)(k:IntKind)(a b:Int):Option V:=
 match op with
 |.add=>some (.int k (k.wrap (a+b)))|.sub=>some (.int k (k.wrap (a-b)))|.mul=>some (.int k (k.wrap (a*b)))|.quo=>if b=0 then none else some (.int k (k.wrap (a.tdiv b)))|.rem=>if b=0 then none else some (.int k (a.tmod b))|.and=>some (.int k (k.wrap (BitVec.ofInt k.bits a &&& BitVec.ofInt k.bits b).toNat))|.or=>some (.int k (k.wrap (BitVec.ofInt k.bits a ||| BitVec.ofInt k.bits b).toNat))|.xor=>some (.int k (k.wrap (BitVec.ofInt k.bits a ^^^ BitVec.ofInt k.bits b).toNat))|.andNot=>some (.int k (k.wrap (BitVec.ofInt k.bits a &&& ~~~BitVec.ofInt k.bits b).toNat))|.eql=>some (.bool (a == b))|.neq=>some (.bool (a != b))|.lss=>some (.bool (decide (a<b)))|.leq=>some (.bool (decide (a<=b)))|.gtr=>some (.bool (decide (a > b)))|.geq=>some (.bool (decide (a>=b)))|_=>none
def OD(op:BinOp)(k:IntKind)(a b:Int):Option V:=
 if b<0 then none else
 match op with
 |.shl=>some (.int k (k.wrap (a*2^min b.toNat k.bits)))|.shr=>some (.int k (a.fdiv (2^min b.toNat k.bits)))|_=>none
def Rf:V->V->Option Bool
 |.int k a,.int k' b=>if k=k' then some (a == b)else none|_,_=>none
def Ex:List V->List V->Option Bool
 |[],[]=>some true| a::x,b::y=>
   match Rf a b with
   |some true=>Ex x y
   |some false=>some false
   |none=>none
 |_,_=>none
def CO(op:BinOp)(x y:V):Option V:=
 match x,y with
 | .int k a,.int k' b=>
   match op with
   |.shl|.shr=>OD op k a b
   |_=>if k=k' then Em op k a b else none
 | .str a,.str b=>
   match op with
   |.add=>if a.length+b.length<=9223372036854775807 then some (.str (a++b))else none
   |.eql=>some (.bool (a == b))
   |.neq=>some (.bool (!(a == b)))
   |_=>none
 |_,_=>none
def JK(op:UnOp)(x:V):Option V:=
 match op,x with
 |.not,.bool b=>some (.bool (!b))|.neg,.int k n=>some (.int k (k.wrap (0-n)))|_,_=>none
def D4(s:List V):List V->List (Nat×Nat×T_)->Option (List V)
 |cs,[]=>some cs| cs,(off,size,x)::r=>
   let v:=(x.ev s).cells
   if v.length=size/\off+size<=cs.length/\v.all V.cell then D4 s (e_ cs off v) r else none
def CS(n:Option Nat)(cs:List V):Option V:=
 match n,cs with
 |some _,cs=>some (.agg cs)|none,[v]=>some v|none,_=>none
def Ey(d:Nat):Option V->Option Nat
 |none=>some d|some (.int _ i)=>if 0<=i then some i.toNat else none|some _=>none
def Re:List V->Option (List UInt8)
 |[]=>some []|.int .u8 n::r=>(Re r).map λs=>UInt8.ofNat n.toNat::s
 |_::_=>none
def Af(o:p_)(st:St):Option (V×List (List V)×Ac):=
 let s:=st.sl
 let g (v:V):Option (V×List (List V)×Ac):=some (v,st.bx,st.hp)
 match o with
 |.mv x=>g (x.ev s)| .z_ x=>match x.ev s with
   |.box i o=>g (.box i o)
   |.ptr l o=>g (.ptr l o)
   |_=>none
 | .pick c a b=>match c.ev s with
   |.bool t=>g (if t then a.ev s else b.ev s)
   |_=>none
 |.d7 i zs=>if i<st.bx.length/\zs.all V.cell then some (.box i 0,C6 st.bx i zs,st.hp)else none| .boxB i n x=>
   let cs:=(x.ev s).cells
   if i<st.bx.length/\cs.length=n/\cs.all V.cell then some (.box i 0,C6 st.bx i cs,st.hp)else none
 |.allocH zs=>if zs.all V.cell then some (.ptr st.hp.length 0,st.bx,st.hp++[⟨.own,1,zs⟩])else none| .boxH n x=>
   let cs:=(x.ev s).cells
   if cs.length=n/\cs.all V.cell then some (.ptr st.hp.length 0,st.bx,st.hp++[⟨.own,1,cs⟩])else none
 |.build zs ps=>if zs.all V.cell then (D4 s zs ps).bind λcs=>g (.agg cs)else none
 | .mkSlice w z len=>match len.ev s with
   | .int .i64 n=>
     if 0<=n/\z.length=w/\0<w/\z.all V.cell/\AE (n.toNat*w)then
      if n=0 then g .X_ else some (.slice st.hp.length 0 n.toNat,st.bx,st.hp++[⟨.own,w,DP z n.toNat⟩])
     else none
   |_=>none
 | .d4 w n zs ps=>
   if n=0 then g .X_
   else if zs.all V.cell/\zs.length=n*w/\0<w then
    (D4 s zs ps).bind λcs=>some (.slice st.hp.length 0 n,st.bx,st.hp++[⟨.own,w,cs⟩])
   else none
 | .d6 i n a=>match a.ev s with
   | .box j o=>
     if i=j/\o+n.getD 1<=(A3 st.bx i).length then (CS n (((A3 st.bx i).drop o).take (n.getD 1))).bind g else none
   |_=>none
 | .g9 n a=>match a.ev s with
   |.ptr l o=>(rd st.hp l o (n.getD 1)).bind λcs=>(CS n cs).bind g
   |_=>none
 | .loadX i c n a=>if UK (get (A3 st.bx i) c) (a.ev s)=true then (match a.ev s with
   |.ptr l o=>(rd st.hp l o (n.getD 1)).bind λcs=>(CS n cs).bind g
   |_=>none)else none
 | .U_ i n a x=>match a.ev s with
   | .box j o=>
     let cs:=(x.ev s).cells
     if i=j/\i<st.bx.length/\cs.length=n/\o+n<=(A3 st.bx i).length/\cs.all V.cell then some (.undef,C6 st.bx i (e_ (A3 st.bx i) o cs),st.hp)else none
   |_=>none
 | .f6 n a x=>match a.ev s with
   | .ptr l o=>
     let cs:=(x.ev s).cells
     if cs.length=n/\cs.all V.cell then (wr st.hp l o cs).bind λh=>some (.undef,st.bx,h)else none
   |_=>none
 |.bin op x y=>(CO op (x.ev s) (y.ev s)).bind g| .eqB neg x y=>match x.ev s,y.ev s with
   |.bool a,.bool b=>g (.bool (if neg then !(a == b)else a == b))
   |_,_=>none
 | .eqN neg x y=>match x.ev s,y with
   |.ifc a,.c (.ifc true)=>g (.bool (if neg then !a else a))
   |_,_=>none
 | .eqA n neg x y=>match x.ev s,y.ev s with
   |.agg a,.agg b=>if a.length=n/\b.length=n then (Ex a b).bind λt=>g (.bool (if neg then !t else t))else none
   |_,_=>none
 |.un op x=>(JK op (x.ev s)).bind g| .conv k x=>match x.ev s with
   |.int _ n=>g (.int k (k.wrap n))
   |_=>none
 | .bstr x=>match x.ev s with
   |.X_=>g (.str [])
   |.slice l o n=>(rd st.hp l o n).bind λcs=>(Re cs).bind λb=>g (.str b)
   |_=>none
 | .slice w x lo hi=>match x.ev s with
   |.X_=>(Ey 0 (lo.map (·.ev s))).bind λl=>(Ey 0 (hi.map (·.ev s))).bind λh=>if l=0/\h=0 then g .X_ else none
   |.slice b o n=>(Ey 0 (lo.map (·.ev s))).bind λl=>(Ey n (hi.map (·.ev s))).bind λh=>
    if l<=h/\h<=n/\EO st.hp b=some w then g (.slice b (o+l*w) (h-l))else none
   |_=>none
 | .substr x lo hi=>match x.ev s with
   |.str t=>(Ey 0 (lo.map (·.ev s))).bind λl=>(Ey t.length (hi.map (·.ev s))).bind λh=>
    if l<=h/\h<=t.length then g (.str ((t.drop l).take (h-l)))else none
   |_=>none
 | .f5 off a=>match a.ev s with
   |.box i o=>g (.box i (o+off))
   |.ptr l o=>g (.ptr l (o+off))
   |_=>none
 | .field off n x=>match x.ev s with
   |.agg cs=>if off+n.getD 1<=cs.length then (CS n ((cs.drop off).take (n.getD 1))).bind g else none
   |_=>none
 | .m_ w x i=>match x.ev s,i.ev s with
   |.slice l o n,.int _ j=>if 0<=j/\j<n then g (.ptr l (o+j.toNat*w))else none
   |_,_=>none
 | .index x i=>match x.ev s,i.ev s with
   |.str t,.int _ j=>if 0<=j then (match t[j.toNat]? with|some b=>g (.int .u8 b.toNat)|none=>none)else none
   |_,_=>none
 | .len x=>match x.ev s with
   |.X_=>g (.int .i64 0)
   |.slice _ _ n=>g (.int .i64 n)
   |_=>none
 | .lenT x=>match x.ev s with
   |.str t=>g (.int .i64 t.length)
   |_=>none
 |.app w x y=>if 0<w then (app st.hp w (x.ev s) (y.ev s)).bind λ(v,h)=>some (v,st.bx,h)else none
 | .appN w x y=>match x.ev s with
   |.X_=>if 0<w then (app st.hp w .X_ (y.ev s)).bind λ(v,h)=>some (v,st.bx,h)else none
   |_=>none
 | .minI x y=>match x.ev s,y.ev s with
   |.int .i64 a,.int .i64 b=>g (.int .i64 (if b<a then b else a))
   |_,_=>none
 | .maxI x y=>match x.ev s,y.ev s with
   |.int .i64 a,.int .i64 b=>g (.int .i64 (if b > a then b else a))
   |_,_=>none
 | .extract x i=>match x.ev s with
   | .f8 vs=>match vs[i]? with
     |some v=>g v
     |none=>none
   |_=>none
 |.callB ..=>none
theorem XQ{i c:Nat}{n:Option Nat}{a:T_}{st:St}{r:V×List (List V)×Ac}(e:Af (.loadX i c n a) st=some r):UK (get (A3 st.bx i) c) (a.ev st.sl)=true/\Af (.g9 n a) st=some r:=by
 simp only[Af]at e;split at e
 ·rename_i h;exact⟨h,e⟩
 cases e
theorem oD{i c:Nat}{n:Option Nat}{a:T_}{st:St}(h:UK (get (A3 st.bx i) c) (a.ev st.sl)=true):Af (.loadX i c n a) st=Af (.g9 n a) st:=by
 simp only[Af,h,AX]
theorem XM{w:Nat}{x y:T_}{st:St}{r:V×List (List V)×Ac}(e:Af (.appN w x y) st=some r):x.ev st.sl= .X_:=by
 simp only[Af]at e;split at e
 ·assumption
 cases e
theorem cR{w:Nat}{x y:T_}{st:St}(h:x.ev st.sl= .X_):Af (.appN w x y) st=Af (.app w x y) st:=by
 simp only[Af,h]
def p_.clears(o:p_)(s:List V):List V:=
 match o with
 |.d7 i _|.boxB i _ _=>r_ i s|_=>s
def AP(o:p_)(d:Option Nat)(k:St->Prop)(st:St):Prop:=
 match o with
 |.callB kp f args=>(args.map (·.ev st.sl)).all V.ok1=true/\Rs st.bx kp f (args.map (·.ev st.sl)) st.hp λr h=>k (St.put { st with hp:=h } d r)
 | o=>match Af o st with
   |some (v,bx,hp)=>k (St.put { sl:=o.clears st.sl,bx,hp } d v)
   |none=>False
def Cx(o:c_)(k:St->Prop)(st:St):Prop:=
 match o.guard with
 |none=>AP o.op o.dst k st| some (g,want)=>match get st.sl g with
   |.bool b=>if b=want then AP o.op o.dst k st else k (st.put o.dst (.f8 []))
   |.f8 []=>k (st.put o.dst (.f8 []))
   |_=>False
def BS:List c_->(St->Prop)->St->Prop
 |[],k,st=>k st|o::r,k,st=>Cx o (BS r k) st
def c_.pairU(p q:c_):Bool:=match p.op,q.op with
 |.d4 _ _ _ [(_,_,.t _)],.appN _ (.c .X_) _=>true|_,_=>false
def Pe:List c_->Option (List c_)
 |p::q::r=>if p.pairU q then some (q::p::r)else (Pe (q::r)).map (p::·)|_=>none
abbrev CA:=AExit->St->Prop
def Gh(next:St->Prop)(k:CA):CA
 |.normal,st=>next st|e,st=>k e st
def Jx(id:Nat)(k:CA):CA
 |.exit j,st=>if j=id then k .normal st else k (.exit j) st|e,st=>k e st
def Pq(body:CA->St->Prop)(live:List Nat)(k:CA):Nat->St->Prop
 |0,_=>False|n+1,st=>body (Gh (Pq body live k n) k) { st with sl:=keep live 0 st.sl }
def B3:ACode->CA->St->Prop
 |.skip,k,st=>k .normal st|.region ops,k,st=>BS ops (k .normal) st|.regionU ops,k,st=>BS ops (k .normal) st/\∀g,Pe ops=some g->BS g (k .normal) st|.seq a b,k,st=>B3 a (Gh (B3 b k) k) st| .cond c a b,k,st=>match c.ev st.sl with
   |.bool t=>if t then B3 a k st else B3 b k st
   |_=>False
 |.block id a,k,st=>B3 a (Jx id k) st|.loop live a,k,st=>∃n,Pq (B3 a) live k n st|.exit id,k,st=>k (.exit id) st|.ret,k,st=>k .ret st
def HE(st:St):ARes->Option V
 |.tmp t=>if (get st.sl t).ok1 then some (get st.sl t)else none| .cell t n=>match get st.sl t with
   |.box i o=>if o+n.getD 1<=(A3 st.bx i).length then CS n (((A3 st.bx i).drop o).take (n.getD 1))else none
   |.ptr l o=>(rd st.hp l o (n.getD 1)).bind λcs=>CS n cs
   |_=>none
def Fe(st:St):List ARes->Option (List V)
 |[]=>some []| r::rs=>match HE st r,Fe st rs with
   |some v,some vs=>some (v::vs)
   |_,_=>none
def Fp(st:St):List ARes->Option V
 |[r]=>HE st r|rs=>(Fe st rs).map .f8
def EE:Nat->List V
 |0=>[]|n+1=>.undef::EE n
def HK:Nat->List (List V)
 |0=>[]|n+1=>[]::HK n
def Zg(f:AFun)(h0:Ac)(Q:V->Ac->Prop):CA
 | .normal,st|.ret,st=>match Fp st f.res with
   |some v=>if f.pure then v.flat2=true/\st.hp.take h0.length=h0/\Q v h0 else Q v st.hp
   |none=>False
 |.exit _,_=>False
def ER(f:AFun):Bg:=λargs h Q=>
 args.length=f.nparams/\B3 f.body (Zg f h Q) ⟨args++EE (f.nslots-f.nparams),HK f.nbox,h⟩
structure Place where
 b:Nat
 o:Nat
 c:Nat
abbrev AL:=Nat->Place
inductive Rel (ι:AL) (σ:Ac) (β:Nat->Nat):V->Value->Prop
 |undef (x:Value):Rel ι σ β .undef x|bool (b:Bool):Rel ι σ β (.bool b) (.bool b)|int (k:IntKind) (n:Int):Rel ι σ β (.int k n) (.int k n)|str (s:List UInt8):Rel ι σ β (.str s) (.string ⟨s.toArray⟩)|X_ (a:Option Addr):Rel ι σ β .X_ (.slice a 0 0)|slice (l o n c:Nat) (Y_:Blk) (h:σ[l]?=some Y_) (hn:n<=c) (hc:o+c*Y_.w<=(ι l).c) (hw:0<Y_.w):Rel ι σ β (.slice l o n) (.slice (some ⟨(ι l).b,(ι l).o+o,none⟩) n c)|sliceEnd (l o:Nat) (Y_:Blk) (h:σ[l]?=some Y_) (a:Option Addr) (hw:0<Y_.w):Rel ι σ β (.slice l o 0) (.slice a 0 0)|box (i o:Nat):Rel ι σ β (.box i o) (.pointer (some ⟨β i,o,none⟩))|ptr (l o:Nat) (Y_:Blk) (h:σ[l]?=some Y_) (hw:0<Y_.w):Rel ι σ β (.ptr l o) (.pointer (some ⟨(ι l).b,(ι l).o+o,none⟩))|nilIfc:Rel ι σ β (.ifc true) .nilIface|ifc (t:TypeId) (v:Value):Rel ι σ β (.ifc false) (.iface t v)|agg (cs:List V) (ws:List Value) (hl:cs.length=ws.length) (hk:∀v,v∈cs->v.cell=true) (h:∀(i:Nat) v w,cs[i]?=some v->ws[i]?=some w->Rel ι σ β v w):Rel ι σ β (.agg cs) (.agg ws.toArray)|f8 (cs:List V) (ws:List Value) (hl:cs.length=ws.length) (hk:∀v,v∈cs->v.ok1=true) (h:∀(i:Nat) v w,cs[i]?=some v->ws[i]?=some w->Rel ι σ β v w):Rel ι σ β (.f8 cs) (.tuple ws.toArray)
structure Keeps (ι:AL) (σ:Ac) (ι':AL) (σ':Ac):Prop where
 place:∀(l:Nat) (Y_:Blk),σ[l]?=some Y_->ι' l=ι l
 width:∀(l:Nat) (Y_:Blk),σ[l]?=some Y_->∃w_:Blk,σ'[l]?=some w_/\w_.w=Y_.w
theorem Keeps.refl(ι:AL)(σ:Ac):Keeps ι σ ι σ:=⟨λ_ _ _=>rfl,λ_ Y_ h=>⟨Y_,h,rfl⟩⟩
theorem Keeps.trans{ι ι' ι'':AL}{σ σ' σ'':Ac}(a:Keeps ι σ ι' σ')(b:Keeps ι' σ' ι'' σ''):Keeps ι σ ι'' σ'':=by
 refine⟨λl Y_ h=>?_,λl Y_ h=>?_⟩
 ·obtain⟨g,h1,_⟩:=a.width l Y_ h;rw[b.place l g h1,a.place l Y_ h]
 obtain⟨g,h1,n⟩:=a.width l Y_ h;obtain⟨q,i,j⟩:=b.width l g h1;exact⟨q,i,j.trans n⟩
theorem Rel.mono{ι ι':AL}{σ σ':Ac}{β β':Nat->Nat}{v:V}{x:Value}(k:Keeps ι σ ι' σ')(z:∀i o,v= .box i o->β' i=β i)(h:Rel ι σ β v x):Rel ι' σ' β' v x:=by
 induction h with
 |undef x=>exact .undef x
 |bool b=>exact .bool b
 |int k n=>exact .int k n
 |str s=>exact .str s
 |X_ a=>exact .X_ a
 | slice l o n c Y_ h hn hc g=>
   obtain⟨y,h1,q⟩:=k.width l Y_ h;have:=Rel.slice (ι:=ι') (σ:=σ') (β:=β') l o n c y h1 hn (by rw[k.place l Y_ h,q];exact hc) (by rw[q];exact g);rwa [k.place l Y_ h]at this
 | sliceEnd l o Y_ h a g=>
   obtain⟨y,h1,q⟩:=k.width l Y_ h;exact .sliceEnd l o y h1 a (by rw[q];exact g)
 |box i o=>rw[<- z i o rfl];exact .box i o
 | ptr l o Y_ h g=>
   obtain⟨y,h1,q⟩:=k.width l Y_ h;have:=Rel.ptr (ι:=ι') (σ:=σ') (β:=β') l o y h1 (by rw[q];exact g);rwa [k.place l Y_ h]at this
 |nilIfc=>exact .nilIfc
 |ifc t v=>exact .ifc t v
 | agg cs ws hl hk h ih=>
   refine .agg cs ws hl hk λi v w u g=>ih i v w u g ?_;intro j o e;have:=hk v (Il u);subst e;simp[V.cell]at this
 | f8 cs ws hl hk h ih=>
   refine .f8 cs ws hl hk λi v w u g=>ih i v w u g ?_;intro j o e;have:=hk v (Il u);subst e;simp[V.ok1,V.cell]at this
theorem Rel.cellMono{ι ι':AL}{σ σ':Ac}{β β':Nat->Nat}{v:V}{x:Value}(k:Keeps ι σ ι' σ')(b:v.cell=true)(h:Rel ι σ β v x):Rel ι' σ' β' v x:=h.mono k λi o e=>by subst e;simp[V.cell]at b
structure HRel (ι:AL) (σ:Ac) (w:World):Prop where
 cells:∀(l:Nat) (Y_:Blk),σ[l]?=some Y_->Y_.k≠.dead->∀(i:Nat) v,Y_.cs[i]?=some v->v.cell=true/\∃x,w.cell? ⟨(ι l).b,(ι l).o+i,none⟩=some x/\∀β,Rel ι σ β v x
 own:∀(l:Nat) (Y_:Blk),σ[l]?=some Y_->Y_.k= .own->(ι l).o=0/\Y_.cs.length<=(ι l).c/\∃arr e,w.heap[(ι l).b]?=some (.cells arr e (0,0))/\arr.size=(ι l).c
 apart:∀(l l':Nat) (Y_ w_:Blk),l≠l'->σ[l]?=some Y_->σ[l']?=some w_->Y_.k= .own->w_.k≠.dead->(ι l).b≠(ι l').b
 there:∀(l:Nat) (Y_:Blk),σ[l]?=some Y_->Y_.k≠.dead->(ι l).b<w.heap.size
structure Step (ι:AL) (σ:Ac) (w:World) (ι':AL) (σ':Ac) (w':World):Prop where
 keeps:Keeps ι σ ι' σ'
 kinds:∀(l:Nat) (Y_ w_:Blk),σ[l]?=some Y_->σ'[l]?=some w_->w_.k=Y_.k\/(Y_.k= .own/\w_.k= .dead)
 fresh:∀(l:Nat) (w_:Blk),σ.length<=l->σ'[l]?=some w_->w_.k≠.dead->w_.k= .own/\(w.heap.size<=(ι' l).b\/∃(l0:Nat) (blk0:Blk),σ[l0]?=some blk0/\blk0.k= .own/\(ι l0).b=(ι' l).b)
 frame:∀b,b<w.heap.size->(∀(l:Nat) (Y_:Blk),σ[l]?=some Y_->Y_.k= .own->(ι l).b≠b)->w'.heap[b]?=w.heap[b]?
 size:w.heap.size<=w'.heap.size
 os:w'.os=w.os
 output:w'.output=w.output
 tape:w'.tape=w.tape
theorem Step.refl(ι:AL)(σ:Ac)(w:World):Step ι σ w ι σ w where
 keeps:=.refl ι σ
 kinds l Y_ w_ h h':=.inl (by rw[h]at h';cases h';rfl)
 fresh l w_ hl h:=by rw[BR hl]at h;cases h
 frame _ _ _:=rfl
 size:=BN _
 os:=rfl
 output:=rfl
 tape:=rfl
theorem BB{σ:Ac}{l:Nat}{Y_:Blk}(h:σ[l]?=some Y_):l<σ.length:=by
 rcases Bz l σ.length with h1|h1
 ·exact h1
 rw[BR h1]at h;cases h
theorem QV{σ:Ac}{l:Nat}(h:l<σ.length):∃Y_,σ[l]?=some Y_:=⟨_,Bc h⟩
theorem Step.trans{ι ι' ι'':AL}{σ σ' σ'':Ac}{w w' t:World}(a:Step ι σ w ι' σ' w')(b:Step ι' σ' w' ι'' σ'' t):Step ι σ w ι'' σ'' t where
 keeps:=a.keeps.trans b.keeps
 kinds l Y_ blk'' h h'':=by
  obtain⟨j,h',_⟩:=a.keeps.width l Y_ h;rcases a.kinds l Y_ j h h' with e|⟨x,q⟩
  ·rcases b.kinds l j blk'' h' h'' with f|⟨u,n⟩
   ·exact .inl (f.trans e)
   exact .inr ⟨e▸u,n⟩
  rcases b.kinds l j blk'' h' h'' with f|⟨u,n⟩
  ·exact .inr ⟨x,f.trans q⟩
  rw[q]at u;cases u
 fresh l blk'' I h'' hd:=by
  by_cases G:l<σ'.length
  ·obtain⟨j,h'⟩:=QV G;rcases b.kinds l j blk'' h' h'' with f|⟨u,n⟩
   ·obtain⟨x,q⟩:=a.fresh l j I h' (f▸hd);rw[b.keeps.place l j h'];exact⟨f.trans x,q⟩
   exact absurd n hd
  obtain⟨x,q⟩:=b.fresh l blk'' (by omega) h'' hd;refine⟨x,?_⟩;rcases q with q|⟨l0,s,h0,y,p0⟩
  ·exact .inl (CW a.size q)
  by_cases F:l0<σ.length
  ·obtain⟨i,h1⟩:=QV F;rcases a.kinds l0 i s h1 h0 with f|⟨_,n⟩
   ·exact .inr ⟨l0,i,h1,f▸y,by rw[<- p0,a.keeps.place l0 i h1]⟩
   rw[n]at y;cases y
  obtain⟨_,g⟩:=a.fresh l0 s (by omega) h0 (by rw[y];decide);rcases g with g|⟨C,i,h1,D,A⟩
  ·exact .inl (p0▸g)
  exact .inr ⟨C,i,h1,D,A.trans p0⟩
 frame c hc hn:=by
  rw[b.frame c (Ih hc a.size) ?_,a.frame c hc hn];intro l j h' z e;by_cases I:l<σ.length
  ·obtain⟨Y_,h⟩:=QV I;rcases a.kinds l Y_ j h h' with f|⟨_,n⟩
   ·exact hn l Y_ h (f▸z) (by rw[<- a.keeps.place l Y_ h];exact e)
   rw[n]at z;cases z
  obtain⟨_,g⟩:=a.fresh l j (by omega) h' (by rw[z];decide);rcases g with g|⟨C,i,h1,D,A⟩
  ·omega
  exact hn C i h1 D (A.trans e)
 size:=CW a.size b.size
 os:=b.os.trans a.os
 output:=b.output.trans a.output
 tape:=b.tape.trans a.tape
theorem Step.drew(ι:AL)(σ:Ac)(w:World):Step ι σ w ι σ w.drew:={ Step.refl ι σ w with }
theorem HRel.drew{ι:AL}{σ:Ac}{w:World}(h:HRel ι σ w):HRel ι σ w.drew:=⟨h.cells,h.own,h.apart,h.there⟩
abbrev Phm:=Nat->Option Blk
def NM:Blk:=⟨.dead,0,[]⟩
def kill(Φ:Phm)(h:Ac):Ac:=h.mapIdx λl b=>if (Φ l).isSome then NM else b
def Has(Φ:Phm)(h:Ac):Prop:=∀l b,Φ l=some b->h[l]?=some b
def Phm.no:Phm:=λ_=>none
theorem GA(Φ:Phm)(h:Ac)(l:Nat):(kill Φ h)[l]?=(h[l]?).map λb=>if (Φ l).isSome then NM else b:=by
 simp[kill,fb]
theorem Ev(Φ:Phm)(h:Ac):(kill Φ h).length=h.length:=by simp[kill]
theorem Rb{Φ:Phm}{h:Ac}{l:Nat}(e:Φ l=none):(kill Φ h)[l]?=h[l]?:=by
 rw[GA,e];simp
theorem TZ(h:Ac):kill Phm.no h=h:=by
 apply JB;intro l;exact Rb rfl
theorem Has.no(h:Ac):Has Phm.no h:=λ_ _ e=>by cases e
theorem Has.lt{Φ:Phm}{h:Ac}(H:Has Φ h){l:Nat}{b:Blk}(e:Φ l=some b):l<h.length:=by
 have:=H l b e;rcases Bz l h.length with h1|h1
 ·exact h1
 rw[BR h1]at this;cases this
theorem Has.top{Φ:Phm}{h:Ac}(H:Has Φ h):Φ h.length=none:=by
 cases e:Φ h.length with
 |none=>rfl
 |some b=>have:=H.lt e;omega
theorem OC{Φ:Phm}{h:Ac}(H:Has Φ h)(b:Blk):kill Φ (h++[b])=kill Φ h++[b]:=by
 apply JB;intro l;rw[GA];rcases Nat.lt_trichotomy l h.length with g|g|g
 ·rw[Bp g,Bp (by rw[Ev];exact g),GA]
 ·subst g;rw[Dj (BN _),Dj (by rw[Ev];exact BN _),H.top];simp[Ev]
 rw[BR (by simp;omega),BR (by simp[Ev];omega)];rfl
theorem XN{Φ:Phm}{h:Ac}{l:Nat}(e:Φ l=none)(b:Blk):kill Φ (h.set l b)=(kill Φ h).set l b:=by
 apply JB;intro j;rw[GA,Hw,Hw];by_cases g:l=j
 ·subst g;simp only[AX,Ev,e];by_cases i:l<h.length<;>simp[i]
 simp only[Ae g,GA]
theorem Zgf(Φ:Phm)(h:Ac)(n:Nat):kill Φ (h.take n)=(kill Φ h).take n:=by
 apply JB;intro j;rw[GA,JC,JC];by_cases b:j<n
 ·simp only[Ad b,GA]
 simp only[Ae b];rfl
theorem Has.push{Φ:Phm}{h:Ac}(H:Has Φ h)(e:Ac):Has Φ (h++e):=λl b g=>by
 rw[Bp (H.lt g)];exact H l b g
theorem Has.set{Φ:Phm}{h:Ac}(H:Has Φ h){l:Nat}(e:Φ l=none)(b:Blk):Has Φ (h.set l b):=λj c g=>by
 rw[Hw];split
 ·rename_i i;subst i;rw[e]at g;cases g
 exact H j c g
def sH(Φ:Phm)(ι:AL)(σ:Ac)(w:World)(Q:V->Ac->Prop)(e:Ending)(w':World):Prop:=∃x r σ' ι',e= .returned x/\Q r σ'/\Has Φ σ'/\(∀β,Rel ι' (kill Φ σ') β r x)/\HRel ι' (kill Φ σ') w'/\Step ι (kill Φ σ) w ι' (kill Φ σ') w'
def qc(ι:AL)(σ:Ac)(args:List V)(b:List Value):Prop:=args.length=b.length/\∀(i:Nat) v x,args[i]?=some v->b[i]?=some x->∀β,Rel ι σ β v x
def Yn:List String:=["strconv.ErrSyntax","internal/bytealg.MaxLen","internal/strconv.uint64pow10"]
def Zkt(b:String)(cs:Array Value):Prop:=
 if b= "strconv.ErrSyntax" then ∃t p,cs=#[.iface t p]else if b= "internal/bytealg.MaxLen" then ∃m,cs[0]?=some (.int .i64 m)
 else cs=((List.range 20).map λi=>Value.int .u64 ((10^i:Nat):Int)).toArray
def GlW(P:Program)(w:World):Prop:=∀b∈Yn,∀g,P.globalNamed b=some g->∃cs,w.var? P b=some cs/\Zkt b cs
def Gl(P:Program)(ι:AL)(σ:Ac)(w:World):Prop:=GlW P w/\∀i∈Yn,∀g,P.globalNamed i=some g->∀(l:Nat) (Y_:Blk),σ[l]?=some Y_->Y_.k= .own->(ι l).b≠g
theorem Zfz{P:Program}{w:World}{i:String}{g:Nat}{cs:Array Value}(j:P.globalNamed i=some g)(h:w.var? P i=some cs):g<w.heap.size:=by
 simp only[World.var?,j,Jn]at h;rcases Bz g w.heap.size with n|b
 ·exact n
 rw[Array.getElem?_eq_none b]at h;cases h
theorem Gl.step{P:Program}{ι ι':AL}{σ σ':Ac}{w w':World}(h:Gl P ι σ w)(s:Step ι σ w ι' σ' w'):Gl P ι' σ' w':=by
 have x:∀i∈Yn,∀g,P.globalNamed i=some g->g<w.heap.size:=λi n g j=>by
  obtain⟨cs,t,_⟩:=h.1 i n g j;exact Zfz j t
 refine⟨λi n g j=>?_,λi n g j l Y_ u q=>?_⟩
 ·obtain⟨cs,t,z⟩:=h.1 i n g j;refine⟨cs,?_,z⟩;rw[<- t];simp only[World.var?,j,Jn];rw[s.frame g (x i n g j) (h.2 i n g j)]
 by_cases A:l<σ.length
 ·obtain⟨b,h0⟩:=QV A;rw[s.keeps.place l b h0];rcases s.kinds l b Y_ h0 u with e|⟨_,e⟩
  ·exact h.2 i n g j l b h0 (e▸q)
  rw[e]at q;cases q
 obtain⟨_,e⟩:=s.fresh l Y_ (by omega) u (by rw[q];decide);have:=x i n g j;rcases e with e|⟨l0,b,h0,y,p0⟩
 ·omega
 rw[<- p0];exact h.2 i n g j l0 b h0 y
class GlC (P:Program) (ι:AL) (σ:Ac) (w:World):Prop where
 gl:Gl P ι σ w
theorem GlW.none{P:Program}(h:(Yn.all λb=>(P.globalNamed b).isNone)=true)(w:World):GlW P w:=λb i g j=>by
 have:=DE.1 h b i;rw[j]at this;cases this
def AA(P:Program)(f:FuncId)(b:Bg):Prop:=
 ∀(Φ:Phm) (ι:AL) (σ:Ac) (w:World) (args:List V) (g:List Value) (Q:V->Ac->Prop),Has Φ σ->HRel ι (kill Φ σ) w->qc ι (kill Φ σ) args g->b args σ Q->Gl P ι (kill Φ σ) w ->
   Calls P f g.toArray w (sH Φ ι σ w Q)
structure BRel (ι:AL) (σ:Ac) (β:Nat->Nat) (bx:List (List V)) (w0 w:World):Prop where
 cells:∀(i:Nat) cs,bx[i]?=some cs->cs≠[]->∃arr e,w.heap[β i]?=some (.cells arr e (0,0))/\arr.size=cs.length/\∀(j:Nat) v,cs[j]?=some v->v.cell=true/\∃x,arr[j]?=some x/\∀β',Rel ι σ β' v x
 new:∀(i:Nat) cs,bx[i]?=some cs->cs≠[]->w0.heap.size<=β i/\β i<w.heap.size
 apart:∀(i j:Nat) cs cs',i≠j->bx[i]?=some cs->bx[j]?=some cs'->cs≠[]->cs'≠[]->β i≠β j
 heap:∀(i:Nat) cs (l:Nat) (Y_:Blk),bx[i]?=some cs->cs≠[]->σ[l]?=some Y_->Y_.k≠.dead->(ι l).b≠β i
def SRel(ι:AL)(σ:Ac)(β:Nat->Nat)(sl:List V)(tmps:Array Value):Prop:=sl.length<=tmps.size/\∀i,Rel ι σ β (get sl i) (tmps.getD i Go.undef)
def Dc(ι0:AL)(σ0:Ac)(w0:World)(Φ:Phm)(st:St)(a:Act)(w:World):Prop:=a.defers=[]/\Has Φ st.hp/\∃ι β,HRel ι (kill Φ st.hp) w/\BRel ι (kill Φ st.hp) β st.bx w0 w/\SRel ι (kill Φ st.hp) β st.sl a.tmps/\Step ι0 σ0 w0 ι (kill Φ st.hp) w
theorem Zdo(s:List V)(n:Nat)(v:V)(h:n<s.length):get (put s n v) n=v:=by
 induction s generalizing n with
 |nil=>simp at h
 | cons x r ih=>cases n with
   |zero=>rfl
   |succ n=>exact ih n (by simpa using h)
theorem kg(s:List V)(n m:Nat)(v:V)(h:m≠n):get (put s n v) m=get s m:=by
 induction s generalizing n m with
 |nil=>rfl
 | cons x r ih=>cases n with
   | zero=>cases m with
     |zero=>exact absurd rfl h
     |succ m=>rfl
   | succ n=>cases m with
     |zero=>rfl
     |succ m=>exact ih n m (by omega)
theorem ZjQ(s:List V)(n:Nat)(h:s.length<=n):get s n= .undef:=by
 induction s generalizing n with
 |nil=>rfl
 | cons x r ih=>cases n with
   |zero=>simp at h
   |succ n=>exact ih n (by simpa using h)
@[simp] theorem ZlC (s:List V) (n:Nat) (v:V):(put s n v).length=s.length:=by
 induction s generalizing n with
 |nil=>rfl
 | cons x r ih=>cases n with
   |zero=>rfl
   |succ n=>simp[put,ih]
theorem TX(s:List (List V))(n:Nat):A3 s n=s[n]?.getD []:=by
 induction s generalizing n with
 |nil=>rfl
 | cons x r ih=>cases n with
   |zero=>rfl
   |succ n=>simp[A3,ih]
@[simp] theorem Zlz (s:List (List V)) (n:Nat) (v:List V):(C6 s n v).length=s.length:=by
 induction s generalizing n with
 |nil=>rfl
 | cons x r ih=>cases n with
   |zero=>rfl
   |succ n=>simp[C6,ih]
theorem X3(s:List (List V))(n m:Nat)(v:List V):(C6 s n v)[m]?=if m=n/\n<s.length then some v else s[m]?:=by
 induction s generalizing n m with
 |nil=>simp[C6]
 | cons x r ih=>cases n with
   |zero=>cases m<;>simp[C6]
   | succ n=>cases m with
     |zero=>simp[C6]
     |succ m=>simp[C6,ih]
@[simp] theorem Zlx (i:Nat) (s:List V):(r_ i s).length=s.length:=by
 induction s with
 |nil=>rfl
 |cons x r b=>simp[r_,b]
theorem kO(i:Nat)(s:List V)(n:Nat):get (r_ i s) n=if (get s n).isBox i then .undef else get s n:=by
 induction s generalizing n with
 |nil=>simp[r_,get,V.isBox]
 | cons x r ih=>cases n with
   |zero=>rfl
   |succ n=>exact ih n
@[simp] theorem ZlA (live:List Nat) (k:Nat) (s:List V):(keep live k s).length=s.length:=by
 induction s generalizing k with
 |nil=>rfl
 |cons x r b=>simp[keep,b]
theorem ZgV(live:List Nat)(k:Nat)(s:List V)(n:Nat):get (keep live k s) n= .undef\/get (keep live k s) n=get s n:=by
 induction s generalizing k n with
 |nil=>exact .inl rfl
 | cons x r ih=>cases n with
   |zero=>simp only[keep,get];split<;>simp
   |succ n=>exact ih (k+1) n
theorem Hf:∀(cs:List V) (o:Nat) (b:List V),(e_ cs o b).length=cs.length
 |cs,0,[]=>by cases cs<;>rfl
 |[],0,_::_=>rfl
 |_::r,0,v::b=>by simp[e_,Hf r 0 b]
 |[],_+1,_=>rfl
 |c::r,n+1,b=>by simp[e_,Hf r n b]
theorem Xc:∀(cs:List V) (o:Nat) (b:List V) (j:Nat),o+b.length<=cs.length->(e_ cs o b)[j]?=if o<=j/\j<o+b.length then b[j-o]? else cs[j]?
 |cs,0,[],j,_=>by cases cs<;>simp[e_]
 |[],0,_::_,j,h=>by simp at h
 | _ :: r,0,v::b,j,h=>by
   cases j with
   |zero=>simp[e_]
   | succ j=>
     have:=Xc r 0 b j (by simp at h ⊢;omega);simp[e_,this]
 |[],n+1,b,j,h=>by simp at h
 | c :: r,n+1,b,j,h=>by
   cases j with
   |zero=>simp[e_]
   | succ j=>
     have:=Xc r n b j (by simp at h ⊢;omega);simp only[e_,T5,this];by_cases g:n<=j/\j<n+b.length
     ·rw[Ad g,Ad (by omega)];congr 1;omega
     rw[Ae g,Ae (by omega)]
theorem Zjs{h:Ac}{l o n:Nat}{cs:List V}(e:rd h l o n=some cs):∃b,h[l]?=some b/\b.k≠.dead/\o+n<=b.cs.length/\cs=(b.cs.drop o).take n:=by
 unfold rd at e;cases i:h[l]? with
 |none=>simp[i]at e
 | some b=>
   simp only[i]at e;split at e
   ·rename_i g;exact⟨b,rfl,g.1,g.2,(Di e).symm⟩
   cases e
theorem SV{α:Type}{cs:List α}{o n:Nat}(h:o+n<=cs.length):((cs.drop o).take n).length=n:=by
 simp;omega
theorem Fy{α:Type}{cs:List α}{o n j:Nat}{v:α}(e:((cs.drop o).take n)[j]?=some v):j<n/\cs[o+j]?=some v:=by
 rw[JC]at e;split at e
 ·rename_i b;exact⟨b,by simpa using e⟩
 cases e
section
variable {ι:AL} {σ:Ac} {β:Nat->Nat}
theorem Rel.cells{v:V}{x:Value}(h:Rel ι σ β v x)(F:v.cells.all V.cell=true):x.cells.size=v.cells.length/\∀(i:Nat) u,v.cells[i]?=some u->u.cell=true/\∃y,x.cells[i]?=some y/\∀β',Rel ι σ β' u y:=by
 have g:∀ {v:V} {x:Value},Rel ι σ β v x->v.cell=true->v.cells=[v]->x.cells=#[x] ->
  x.cells.size=v.cells.length/\∀(i:Nat) u,v.cells[i]?=some u->u.cell=true/\∃y,x.cells[i]?=some y/\∀β',Rel ι σ β' u y:=by
  intro v x h z J I;rw[J,I];refine⟨rfl,λi u C=>?_⟩;cases i with
  |zero=>simp at C;subst C;exact⟨z,x,rfl,λβ'=>h.cellMono (.refl _ _) z⟩
  |succ i=>simp at C
 cases h with
 |undef x=>simp[V.cells,V.cell]at F
 |bool b=>exact g (.bool b) rfl rfl rfl
 |int k n=>exact g (.int k n) rfl rfl rfl
 |str s=>exact g (.str s) rfl rfl rfl
 |X_ a=>exact g (.X_ a) rfl rfl rfl
 |slice l o n c Y_ h G z j=>exact g (.slice l o n c Y_ h G z j) rfl rfl rfl
 |sliceEnd l o Y_ h a j=>exact g (.sliceEnd l o Y_ h a j) rfl rfl rfl
 |box i o=>simp[V.cells,V.cell]at F
 |ptr l o Y_ h j=>exact g (.ptr l o Y_ h j) rfl rfl rfl
 |nilIfc=>exact g .nilIfc rfl rfl rfl
 |ifc t v=>exact g (.ifc t v) rfl rfl rfl
 | agg cs ws D z h=>
   refine⟨by simp[V.cells,Value.cells,D],λi u C=>?_⟩;have q:cs[i]?=some u:=C;have hi:i<ws.length:=(by rw[<- D];exact(List.getElem?_eq_some_iff.1 q).1);have j:ws[i]?=some ws[i]:=Bc hi;have A:=z u (Il q);exact⟨A,ws[i],by simp[Value.cells],λβ'=>(h i u _ q j).cellMono (.refl _ _) A⟩
 |f8 cs ws D z h=>simp[V.cells,V.cell]at F
theorem E9{k:IntKind}{n:Int}{x:Value}(h:Rel ι σ β (.int k n) x):x= .int k n:=by cases h;rfl
theorem QS{b:Bool}{x:Value}(h:Rel ι σ β (.bool b) x):x= .bool b:=by cases h;rfl
theorem Q7{s:List UInt8}{x:Value}(h:Rel ι σ β (.str s) x):x= .string ⟨s.toArray⟩:=by cases h;rfl
theorem QM{x:Value}(h:Rel ι σ β .X_ x):∃a,x= .slice a 0 0:=by cases h;exact⟨_,rfl⟩
theorem TP{i o:Nat}{x:Value}(h:Rel ι σ β (.box i o) x):x= .pointer (some ⟨β i,o,none⟩):=by cases h;rfl
theorem Ju{l o:Nat}{x:Value}(h:Rel ι σ β (.ptr l o) x):(∃Y_,σ[l]?=some Y_)/\x= .pointer (some ⟨(ι l).b,(ι l).o+o,none⟩):=by cases h;exact⟨⟨_,‹_›⟩,rfl⟩
theorem Gx{l o n:Nat}{x:Value}(h:Rel ι σ β (.slice l o n) x):∃Y_,σ[l]?=some Y_ /\
 ((∃c,x= .slice (some ⟨(ι l).b,(ι l).o+o,none⟩) n c/\n<=c/\o+c*Y_.w<=(ι l).c)\/(n=0/\∃a,x= .slice a 0 0)):=by
 cases h with
 |slice l o n c Y_ h i j g=>exact⟨Y_,h,.inl ⟨c,rfl,i,j⟩⟩
 |sliceEnd l o Y_ h a g=>exact⟨Y_,h,.inr ⟨rfl,a,rfl⟩⟩
theorem MN{l o n:Nat}{x:Value}(h:Rel ι σ β (.slice l o n) x){Y_:Blk}(i:σ[l]?=some Y_):0<Y_.w:=by
 cases h with
 |slice l o n c b h j q g=>rw[i]at h;cases h;exact g
 |sliceEnd l o b h a g=>rw[i]at h;cases h;exact g
theorem Xt{l o:Nat}{x:Value}(h:Rel ι σ β (.ptr l o) x){Y_:Blk}(i:σ[l]?=some Y_):0<Y_.w:=by
 cases h with
 |ptr l o b h g=>rw[i]at h;cases h;exact g
theorem dz{cs:List V}{x:Value}(h:Rel ι σ β (.agg cs) x):∃ws:List Value,x= .agg ws.toArray/\cs.length=ws.length/\(∀v,v∈cs->v.cell=true)/\∀(i:Nat) v w,cs[i]?=some v->ws[i]?=some w->Rel ι σ β v w:=by
 cases h;exact⟨_,rfl,‹_›,‹_›,‹_›⟩
theorem pB{cs:List V}{x:Value}(h:Rel ι σ β (.f8 cs) x):∃ws:List Value,x= .tuple ws.toArray/\cs.length=ws.length/\(∀v,v∈cs->v.ok1=true)/\∀(i:Nat) v w,cs[i]?=some v->ws[i]?=some w->Rel ι σ β v w:=by
 cases h;exact⟨_,rfl,‹_›,‹_›,‹_›⟩
theorem XA {n:Option Nat} {cs:List V} {v:V} {ws:List Value} (e:CS n cs=some v) (b:cs.length=ws.length) (g:∀v,v∈cs->v.cell=true)
 (h:∀(i:Nat) v w,cs[i]?=some v->ws[i]?=some w->Rel ι σ β v w):(n.isSome=true/\Rel ι σ β v (.agg ws.toArray))\/(n=none/\∃x,ws=[x]/\Rel ι σ β v x):=by
 cases n with
 |some m=>simp[CS]at e;subst e;exact .inl ⟨rfl,.agg cs ws b g h⟩
 | none=>
   match cs,ws,b with
   |[c],[x],_=>simp[CS]at e;subst e;exact .inr ⟨rfl,x,rfl,h 0 c x rfl rfl⟩
   |[],[],_=>simp[CS]at e
   |_::_::_,_,_=>simp[CS]at e
end
def M8:Value->V->Bool
 |.bool a,.bool b=>a == b|.int k a,.int k' b=>k == k'&&a == b|.string s,.str t=>s.data.toList == t|.slice none 0 0,.X_=>true|.nilIface,.ifc true=>true|_,_=>false
def AH:Operand->T_->Bool
 |.tmp a,.t b=>a == b|.const _,.c .undef=>true|.const v,.c u=>M8 v u|_,_=>false
def Pp:List Operand->List T_->Bool
 |[],[]=>true|x::r,y::s=>AH x y&&Pp r s|_,_=>false
def GG:List Value->List V->Bool
 |[],[]=>true|x::r,y::s=>M8 x y&&GG r s|_,_=>false
theorem bd{x:Value}{v:V}(h:M8 x v=true)(ι:AL)(σ:Ac)(β:Nat->Nat):Rel ι σ β v x:=by
 unfold M8 at h;split at h
 ·simp at h;subst h;exact .bool _
 ·simp at h;obtain⟨rfl,rfl⟩:=h;exact .int _ _
 ·rename_i s t;simp at h;subst h;exact .str _
 ·exact .X_ _
 ·exact .nilIfc
 cases h
theorem kM{x:Value}{v:V}(h:M8 x v=true):v.cell=true:=by
 unfold M8 at h;split at h<;>first|rfl|cases h
theorem BI{x:Operand}{y:T_}(h:AH x y=true){ι:AL}{σ:Ac}{β:Nat->Nat}{sl:List V}{a:Act}(hs:SRel ι σ β sl a.tmps):Rel ι σ β (y.ev sl) (a.eval x):=by
 unfold AH at h;split at h
 ·simp at h;subst h;exact hs.2 _
 ·exact .undef _
 ·exact bd h _ _ _
 cases h
theorem Tc{g:List Value}{b:List V}(h:GG g b=true):b.length=g.length:=by
 induction g generalizing b with
 | nil=>cases b with
   |nil=>rfl
   |cons=>simp[GG]at h
 | cons x r ih=>cases b with
   |nil=>simp[GG]at h
   |cons y s=>simp[GG]at h;simp[ih h.2]
theorem kT{j:List Value}{b:List V}(h:GG j b=true)(i:Nat)(v:V)(g:b[i]?=some v):∃x,j[i]?=some x/\M8 x v=true:=by
 induction j generalizing b i with
 | nil=>cases b with
   |nil=>simp at g
   |cons=>simp[GG]at h
 | cons x r ih=>cases b with
   |nil=>simp at g
   | cons y s=>
     simp[GG]at h;cases i with
     |zero=>simp at g;subst g;exact⟨x,rfl,h.1⟩
     |succ i=>simpa using ih h.2 i g
section
variable {P:Program} {w:World}
theorem Dh{t:TypeId}{d:TypeDesc}(h:P.underlying t=some d):(underlying t).run P w= .ok d w:=by simp[underlying,h]
theorem eQ{t:TypeId}{i:TypeInfo}(h:P.info? t=some i):(typeInfo t).run P w= .ok i w:=by simp[typeInfo,h]
theorem F8{t:TypeId}{i:TypeInfo}(h:P.info? t=some i):(sizeOf t).run P w= .ok i.size w:=by simp[sizeOf,eQ h]
theorem Uk{t:TypeId}{i:TypeInfo}{z:Value}(h:P.info? t=some i)(b:i.zero=some z):(zeroValue t).run P w= .ok z w:=by simp[zeroValue,eQ h,b]
def YX:TypeDesc->Bool
 |.struct _|.array _ _=>true|_=>false
theorem Nb{t:TypeId}{d:TypeDesc}(h:P.underlying t=some d):(isAgg t).run P w= .ok (YX d) w:=by
 simp only[isAgg,Ed,Dh h,Dy];cases d<;>rfl
end
def Iv(P:Program)(t:TypeId)(n:Option Nat):Bool:=
 match P.underlying t,P.info? t with
 |some d,some i=>(match n with|some m=>YX d&&i.size == m|none=>!YX d&&i.size == 1)
 |_,_=>false
theorem Xg{P:Program}{t:TypeId}{n:Option Nat}(h:Iv P t n=true):∃d i,P.underlying t=some d/\P.info? t=some i/\YX d=n.isSome/\i.size=n.getD 1:=by
 unfold Iv at h;split at h
 ·rename_i d i hd hi;refine⟨d,i,hd,hi,?_⟩;cases n with
  |some m=>simp at h;exact⟨h.1,h.2⟩
  |none=>simp at h;exact⟨h.1,h.2⟩
 cases h
def JE(P:Program)(t:TypeId)(w:Nat):Bool:=
 match P.underlying t with
 |some (.slice e)=>(match P.info? e with|some i=>(match i.zero with|some z=>i.size == w&&i.bytes<=128&&z.cells.size == w|none=>false)|none=>false)
 |_=>false
theorem W4{P:Program}{t:TypeId}{w:Nat}(h:JE P t w=true):∃e i z,P.underlying t=some (.slice e)/\P.info? e=some i/\i.size=w/\i.bytes<=128/\i.zero=some z/\z.cells.size=w:=by
 unfold JE at h;split at h
 ·rename_i e g;split at h
  ·rename_i i hi;split at h
   ·rename_i z b;simp at h;exact⟨e,i,z,g,hi,h.1.1,h.1.2,b,h.2⟩
   cases h
  cases h
 cases h
def M7(P:Program)(t:TypeId)(f off:Nat)(n:Option Nat):Bool:=
 match P.underlying t with
 |some (.struct fs)=>(match fs[f]? with|some g=>g.offset == off&&Iv P g.type n&&n != some 0|none=>false)
 |_=>false
theorem kQ{P:Program}{t:TypeId}{f off:Nat}{n:Option Nat}(h:M7 P t f off n=true):∃(b:Array Field) (g:Field),P.underlying t=some (.struct b)/\b[f]?=some g/\g.offset=off/\Iv P g.type n=true/\n≠some 0:=by
 unfold M7 at h;split at h
 ·rename_i b j;split at h
  ·rename_i g i;simp at h;exact⟨b,g,j,i,h.1.1,h.1.2,h.2⟩
  cases h
 cases h
theorem Zei{P:Program}{w:World}{v:V}{op:BinOp}{k:IntKind}{m n:Int}{t:TypeId}(g:op≠.shl/\op≠.shr)(e:Em op k m n=some v):∃x,(binOp op t (.int k m) (.int k n)).run P w= .ok x w/\∀ι σ β,Rel ι σ β v x:=by
 cases op;case shl=>exact absurd rfl g.1
 case shr=>exact absurd rfl g.2
 case quo=>
  by_cases b:n=0
  ·simp[Em,b]at e
  simp only[Em,Ae b]at e;cases e;exact⟨.int k (k.wrap (m.tdiv n)),by simp[binOp,Op.intDiv,b],λ_ _ _=>.int _ _⟩
 case rem=>
  by_cases b:n=0
  ·simp[Em,b]at e
  simp only[Em,Ae b]at e;cases e;exact⟨.int k (m.tmod n),by simp[binOp,Op.intDiv,b],λ_ _ _=>.int _ _⟩
 all_goals cases e
 case and=>exact⟨.int k (k.wrap (BitVec.ofInt k.bits m &&& BitVec.ofInt k.bits n).toNat),by simp only[binOp,Hu,ON,A5];rfl,λ_ _ _=>.int _ _⟩
 case or=>exact⟨.int k (k.wrap (BitVec.ofInt k.bits m ||| BitVec.ofInt k.bits n).toNat),by simp only[binOp,Hu,ON,A5];rfl,λ_ _ _=>.int _ _⟩
 case xor=>exact⟨.int k (k.wrap (BitVec.ofInt k.bits m ^^^ BitVec.ofInt k.bits n).toNat),by simp only[binOp,Hu,ON,A5];rfl,λ_ _ _=>.int _ _⟩
 case andNot=>exact⟨.int k (k.wrap (BitVec.ofInt k.bits m &&& ~~~BitVec.ofInt k.bits n).toNat),by simp only[binOp,Hu,ON,A5];rfl,λ_ _ _=>.int _ _⟩
 all_goals first
  |exact⟨_,by simp only[binOp,Hu,ON,A5];rfl,λ_ _ _=>.int _ _⟩
  |exact⟨_,by simp only[binOp,Hu,ON,A5];rfl,λ_ _ _=>.bool _⟩
theorem jP{P:Program}{w:World}{t:TypeId}{x y:Bool}(h:P.underlying t=some .bool):(Op.equal t (.bool x) (.bool y)).run P w= .ok (x == y) w:=by
 unfold Op.equal Op.maxDepth;exact run_equalIn_bool' w 9999 t x y h
theorem ZjJ{y:Operand}(h:AH y (.c (.ifc true))=true):y= .const .nilIface:=by
 cases y with
 |const v=>cases v<;>first|rfl|simp[AH,M8]at h
 |tmp t=>simp[AH]at h
 |global g=>simp[AH]at h
 |func f=>simp[AH]at h
theorem ZjF{ι:AL}{σ:Ac}{β:Nat->Nat}{p:Bool}{x:Value}(h:Rel ι σ β (.ifc p) x):(p=true/\x= .nilIface)\/(p=false/\∃t u,x= .iface t u):=by
 cases h
 ·exact .inl ⟨rfl,rfl⟩
 exact .inr ⟨rfl,_,_,rfl⟩
theorem Ta{P:Program}{w:World}{o:Oper}{a:Act}{c:Call}{b:Builtin}(g:o.op= .call c)(i:c.callee= .builtin b):(execOp a.eval o).run P w=(builtin b c.argTypes o.type (c.args.map fun|.const _=>true|_=>false) (c.args.map a.eval)).run P w:=by
 simp only[execOp,g,resolve,i];rfl
def Out(P:Program)(o:Oper)(a:Act)(ι0:AL)(σ0:Ac)(w0 w:World)(sl:List V)(v:V)(bx:List (List V))(hp:Ac):Prop:=
 ∃b x w' ι' β',(execOp a.eval o).run P w= .ok b w'/\(b= .value x\/(b= .skip/\x=Go.undef))/\HRel ι' hp w'/\BRel ι' hp β' bx w0 w' /\
   SRel ι' hp β' sl a.tmps/\Rel ι' hp β' v x/\Step ι0 σ0 w0 ι' hp w'
section
variable {P:Program} {o:Oper} {a:Act} {ι:AL} {β:Nat->Nat} {st:St} {w0 w:World} {v:V} {bx:List (List V)} {hp:Ac}
 (H:HRel ι st.hp w) (B:BRel ι st.hp β st.bx w0 w) (S:SRel ι st.hp β st.sl a.tmps) {ι0:AL} {σ0:Ac} (T:Step ι0 σ0 w0 ι st.hp w)
include H B S T
theorem Out.pure{x:Value}(g:(execOp a.eval o).run P w= .ok (.value x) w)(b:Rel ι st.hp β v x)(e:some (v,st.bx,st.hp)=some (v,bx,hp)):Out P o a ι0 σ0 w0 w st.sl v bx hp:=by
 cases e;exact⟨_,x,w,ι,β,g,.inl rfl,H,B,S,b,T⟩
theorem rN{x:Operand}{y:T_}(b:o.op= .move x\/o.op= .assign x)(g:AH x y=true)(e:Af (.mv y) st=some (v,bx,hp)):Out P o a ι0 σ0 w0 w st.sl v bx hp:=by
 simp[Af]at e;obtain⟨rfl,rfl,rfl⟩:=e;refine Out.pure H B S T (x:=a.eval x) ?_ (BI g S) rfl;rcases b with b|b<;>simp[execOp,b]
theorem ZhB{x:Operand}{y:T_}(j:o.op= .nilCheck x)(n:AH x y=true)(e:Af (.z_ y) st=some (v,bx,hp)):Out P o a ι0 σ0 w0 w st.sl v bx hp:=by
 have b:=BI n S;simp only[Af]at e;split at e
 ·rename_i i q g;rw[g]at b;have:=TP b;cases e;exact Out.pure H B S T (x:=a.eval x) (by simp[execOp,j,this]) b rfl
 ·rename_i i q g;rw[g]at b;have:=(Ju b).2;cases e;exact Out.pure H B S T (x:=a.eval x) (by simp[execOp,j,this]) b rfl
 cases e
theorem ZiI{c x y:Operand}{c' g b:T_}(q:o.op= .pick c x y)(s:AH c c'=true)(n:AH x g=true)(j:AH y b=true)(e:Af (.pick c' g b) st=some (v,bx,hp)):Out P o a ι0 σ0 w0 w st.sl v bx hp:=by
 have i:=BI s S;simp only[Af]at e;split at e
 ·rename_i t ht;rw[ht]at i;have u:=QS i;cases e;refine Out.pure H B S T (x:=if t then a.eval x else a.eval y) (by simp[execOp,q,u,asBool]) ?_ rfl;cases t
  ·exact BI j S
  exact BI n S
 cases e
theorem ZkD{x:Operand}{j:T_}{op:UnOp}{t:TypeId}(q:o.op= .unOp op t x)(s:AH x j=true)(e:Af (.un op j) st=some (v,bx,hp)):Out P o a ι0 σ0 w0 w st.sl v bx hp:=by
 have g:=BI s S;simp only[Af,JK]at e;split at e
 ·rename_i b i;rw[i]at g;have:=QS g;simp at e;obtain⟨rfl,rfl,rfl⟩:=e;exact Out.pure H B S T (x:=.bool (!b)) (by simp[execOp,q,this,Op.unary]) (.bool _) rfl
 ·rename_i k n i;rw[i]at g;have:=E9 g;simp at e;obtain⟨rfl,rfl,rfl⟩:=e;exact Out.pure H B S T (x:=.int k (k.wrap (0-n))) (by simp[execOp,q,this,Op.unary,Op.intArith]) (by simpa using Rel.int k (k.wrap (0-n))) rfl
 simp at e
theorem ZjT{op:BinOp}{t u:TypeId}{x y:Operand}{M L:T_}(O:o.op= .binOp op t x y u)(Z:AH x M=true)(Y:AH y L=true)(e:Af (.bin op M L) st=some (v,bx,hp)):Out P o a ι0 σ0 w0 w st.sl v bx hp:=by
 have D:=BI Z S;have C:=BI Y S;simp only[Af,Ci]at e;obtain⟨r,b,e2⟩:=e;cases e2;suffices h:∃z,(execOp a.eval o).run P w= .ok (.value z) w/\Rel ι st.hp β v z by
  obtain⟨z,h1,s⟩:=h;exact Out.pure H B S T h1 s rfl
 unfold CO at b;split at b
 ·rename_i k m F n q j;rw[q]at D;rw[j]at C;have J:=E9 D;have I:=E9 C;have go:∀z,(binOp op t (.int k m) (.int F n)).run P w= .ok z w->(∀ι σ β,Rel ι σ β v z)->∃z,(execOp a.eval o).run P w= .ok (.value z) w/\Rel ι st.hp β v z:=by
   intro z h1 s;refine⟨z,?_,s _ _ _⟩;have G:(eqGuard op t x y (.int k m) (.int F n)).run P w= .ok () w:=by
    unfold eqGuard;cases op<;>rfl
   simp only[execOp,O,J,I,Ed,G,h1,Dy];rfl
  have N:∀(A:op= .shl\/op= .shr),OD op k m n=some v->∃z,(execOp a.eval o).run P w= .ok (.value z) w/\Rel ι st.hp β v z:=by
   intro A b;unfold OD at b;split at b
   ·cases b
   rename_i R;rcases A with rfl|rfl
   ·cases b;exact go (.int k (k.wrap (m*2^min n.toNat k.bits))) (by simp[binOp,Op.shift,R]) λ_ _ _=>.int _ _
   cases b;exact go (.int k (m.fdiv (2^min n.toNat k.bits))) (by simp[binOp,Op.shift,R]) λ_ _ _=>.int _ _
  split at b
  ·exact N (.inl rfl) b
  ·exact N (.inr rfl) b
  rename_i h1 s;by_cases U:k=F
  ·subst U;simp only[AX]at b;obtain⟨z,g1,g2⟩:=Zei (P:=P) (w:=w) (t:=t) ⟨h1,s⟩ b;exact go z g1 g2
  simp[U]at b
 ·rename_i i g q j;rw[q]at D;rw[j]at C;have J:=Q7 D;have I:=Q7 C;have G:(eqGuard op t x y (.string ⟨i.toArray⟩) (.string ⟨g.toArray⟩)).run P w= .ok () w:=by
   unfold eqGuard;cases op<;>rfl
  have go:∀z,(Op.stringOp op ⟨i.toArray⟩ ⟨g.toArray⟩).run P w= .ok z w->Rel ι st.hp β v z->∃z,(execOp a.eval o).run P w= .ok (.value z) w/\Rel ι st.hp β v z:=by
   intro z h1 s;refine⟨z,?_,s⟩;have hb:binOp op t (.string ⟨i.toArray⟩) (.string ⟨g.toArray⟩)=Op.stringOp op ⟨i.toArray⟩ ⟨g.toArray⟩:=(by simp[binOp]);simp only[execOp,O,J,I,Ed,G,hb,h1,Dy];rfl
  split at b
  ·split at b
   ·rename_i hl;cases b;refine go (.string ⟨(i++g).toArray⟩) ?_ (.str _);rw[run_string_add_sum w _ _ (by simpa [ByteArray.size]using hl),ByteArray.mk_append_mk]
   cases b
  ·cases b;exact go (.bool (i == g)) (by simp[Op.stringOp]) (.bool _)
  ·cases b;exact go (.bool (!(i == g))) (by simp[Op.stringOp]) (.bool _)
  cases b
 cases b
theorem Zj4 {op:BinOp} {t u:TypeId} {b:Bool} {x y:Operand} {s n:T_} (F:o.op= .binOp op t x y u) (g:op=if b then .neq else .eql) (ht:P.underlying t=some .bool)
 (D:AH x s=true) (C:AH y n=true) (e:Af (.eqB b s n) st=some (v,bx,hp)):Out P o a ι0 σ0 w0 w st.sl v bx hp:=by
 have A:=BI D S;have z:=BI C S;simp only[Af]at e;split at e
 ·rename_i p q j i;rw[j]at A;rw[i]at z;have J:=QS A;have I:=QS z;cases e;refine Out.pure H B S T (x:=.bool (if b=true then !(p == q)else p == q)) ?_ (.bool _) rfl;have G:(eqGuard op t x y (.bool p) (.bool q)).run P w= .ok () w:=(by unfold eqGuard;cases op<;>rfl);simp only[execOp,F,J,I,Ed,G,Dy];cases b
  ·simp only[AZ,A5]at g;subst g;simp[binOp,jP ht]
  simp only[AX]at g;subst g;simp[binOp,jP ht]
 cases e
theorem ZjU {op:BinOp} {t u:TypeId} {g:Bool} {x y:Operand} {z s:T_} {I:Array (String×TypeId)} (F:o.op= .binOp op t x y u) (b:op=if g then .neq else .eql) (ht:P.underlying t=some (.interface I))
 (L:AH x z=true) (J:AH y s=true) (e:Af (.eqN g z s) st=some (v,bx,hp)):Out P o a ι0 σ0 w0 w st.sl v bx hp:=by
 have D:=BI L S;simp only[Af]at e;split at e
 ·rename_i p j;rw[j]at D;cases e;have M:=ZjJ J;subst M;refine Out.pure H B S T (x:=.bool (if g=true then !p else p)) ?_ (.bool _) rfl;have G:a.eval (.const .nilIface)= .nilIface:=rfl;rcases ZjF D with⟨rfl,q⟩|⟨rfl,C,A,q⟩
  ·have n:(eqGuard op t x (.const .nilIface) .nilIface .nilIface).run P w= .ok () w:=(by unfold eqGuard;cases op<;>simp);have i:(Op.equal t .nilIface .nilIface).run P w= .ok true w:=(by unfold Op.equal Op.maxDepth Op.equalIn;simp[Dh ht]);simp only[execOp,F,q,G,Ed,n,Dy];cases g
   ·simp only[AZ,A5]at b;subst b;simp[binOp,i]
   simp only[AX]at b;subst b;simp[binOp,i]
  have n:(eqGuard op t x (.const .nilIface) (.iface C A) .nilIface).run P w= .ok () w:=(by unfold eqGuard;cases op<;>simp);have i:(Op.equal t (.iface C A) .nilIface).run P w= .ok false w:=(by unfold Op.equal Op.maxDepth Op.equalIn;simp[Dh ht]);simp only[execOp,F,q,G,Ed,n,Dy];cases g
  ·simp only[AZ,A5]at b;subst b;simp[binOp,i]
  simp only[AX]at b;subst b;simp[binOp,i]
 cases e
theorem Zi4 {s d:TypeId} {k:IntKind} {x:Operand} {g:T_} (q:o.op= .convert s d x) (hs:(P.underlying s).isSome=true) (hd:P.underlying d=some (.int k)) (j:AH x g=true)
 (e:Af (.conv k g) st=some (v,bx,hp)):Out P o a ι0 σ0 w0 w st.sl v bx hp:=by
 have i:=BI j S;obtain⟨y,hs⟩:=Option.isSome_iff_exists.1 hs;simp only[Af]at e;split at e
 ·rename_i u n b;rw[b]at i;have t:=E9 i;cases e;exact Out.pure H B S T (x:=.int k (k.wrap n)) (by simp[execOp,q,t,convert,Dh hs,Dh hd,Conv.intToInt]) (.int _ _) rfl
 cases e
theorem Ziv {c:Call} {t z:TypeId} {x:Operand} {y:T_} (C:o.op= .call c) (D:c.callee= .builtin .len) (i:c.args=#[x]) (u:c.argTypes=#[t]) (ht:P.underlying t=some (.slice z))
 (A:AH x y=true) (e:Af (.len y) st=some (v,bx,hp)):Out P o a ι0 σ0 w0 w st.sl v bx hp:=by
 have s:=BI A S;have go:∀(b:Option Addr) (n c':Nat),a.eval x= .slice b n c'->(execOp a.eval o).run P w= .ok (.value (.int .i64 n)) w:=by
  intro b n c' j;rw[Ta C D];simp[builtin,Builtin.len_,i,u,j,Dh ht,goInt]
 simp only[Af]at e;split at e
 ·rename_i g;rw[g]at s;obtain⟨b,j⟩:=QM s;cases e;exact Out.pure H B S T (x:=.int .i64 0) (by simpa using go b 0 0 j) (.int _ _) rfl
 ·rename_i l q n g;rw[g]at s;obtain⟨Y_,F,h⟩:=Gx s;cases e;rcases h with⟨c',j,_⟩|⟨rfl,b,j⟩
  ·exact Out.pure H B S T (x:=.int .i64 n) (go _ n c' j) (.int _ _) rfl
  exact Out.pure H B S T (x:=.int .i64 (0:Nat)) (go b 0 0 j) (.int _ _) rfl
 cases e
theorem ZiV {c:Call} {t:TypeId} {x:Operand} {j:T_} (y:o.op= .call c) (z:c.callee= .builtin .len) (b:c.args=#[x]) (i:c.argTypes=#[t]) (ht:P.underlying t=some .string)
 (u:AH x j=true) (e:Af (.lenT j) st=some (v,bx,hp)):Out P o a ι0 σ0 w0 w st.sl v bx hp:=by
 have n:=BI u S;simp only[Af]at e;split at e
 ·rename_i s g;rw[g]at n;have A:=Q7 n;cases e;have q:(ByteArray.mk s.toArray).size=s.length:=YS;exact Out.pure H B S T (x:=.int .i64 s.length) (by rw[Ta y z];simp[builtin,Builtin.len_,b,i,A,Dh ht,goInt,q]) (.int _ _) rfl
 cases e
theorem ZjI {c:Call} {x y:Operand} {q j:T_} (A:o.op= .call c) (C:c.callee= .builtin .min) (b:c.args=#[x,y]) (z:AH x q=true) (u:AH y j=true)
 (e:Af (.minI q j) st=some (v,bx,hp)):Out P o a ι0 σ0 w0 w st.sl v bx hp:=by
 have t:=BI z S;have s:=BI u S;simp only[Af]at e;split at e
 ·rename_i m n i g;rw[i]at t;rw[g]at s;have F:=E9 t;have D:=E9 s;cases e;exact Out.pure H B S T (x:=.int .i64 (if n<m then n else m)) (by rw[Ta A C];simp[builtin,Builtin.min_,Builtin.min2,b,F,D]) (.int _ _) rfl
 cases e
theorem Zit {c:Call} {x y:Operand} {q j:T_} (A:o.op= .call c) (C:c.callee= .builtin .max) (b:c.args=#[x,y]) (z:AH x q=true) (u:AH y j=true)
 (e:Af (.maxI q j) st=some (v,bx,hp)):Out P o a ι0 σ0 w0 w st.sl v bx hp:=by
 have t:=BI z S;have s:=BI u S;simp only[Af]at e;split at e
 ·rename_i m n i g;rw[i]at t;rw[g]at s;have F:=E9 t;have D:=E9 s;cases e;exact Out.pure H B S T (x:=.int .i64 (if n > m then n else m)) (by rw[Ta A C];simp[builtin,Builtin.max_,Builtin.max2,b,F,D]) (.int _ _) rfl
 cases e
theorem Zep{x:Operand}{g:T_}{i:Nat}(t:o.op= .extract x i)(s:AH x g=true)(e:Af (.extract g i) st=some (v,bx,hp)):Out P o a ι0 σ0 w0 w st.sl v bx hp:=by
 have j:=BI s S;simp only[Af]at e;split at e
 ·rename_i A b;rw[b]at j;obtain⟨ws,z,y,C,h⟩:=pB j;split at e
  ·rename_i u q;cases e;have hi:i<ws.length:=(by rw[<- y];exact(List.getElem?_eq_some_iff.1 q).1);have n:ws[i]?=some ws[i]:=Bc hi;exact Out.pure H B S T (x:=ws[i]) (by simp[execOp,t,z,Instr.extract,n]) (h i _ _ q n) rfl
  cases e
 cases e
end
theorem M6(b o n:Nat):(⟨b,o,none⟩:Addr).add n=⟨b,o+n,none⟩:=by
 unfold Addr.add;split
 ·rename_i h;subst h;rfl
 rfl
theorem Tb{P:Program}{w:World}{ad:Addr}{cs:List Value}(h:∀(j:Nat) v,cs[j]?=some v->w.cell? (ad.add j)=some v):(loadCells ad cs.length).run P w= .ok cs.toArray w:=run_loadCells_list w ad cs h
theorem WY {P:Program}{w:World}{t:TypeId}{n:Option Nat}(ht:Iv P t n=true){ad:Addr}{cs:List Value}(y:cs.length=n.getD 1)(h:∀(j:Nat) v,cs[j]?=some v->w.cell? (ad.add j)=some v):(n.isSome=true->(loadVar t ad).run P w= .ok (.agg cs.toArray) w)/\(n=none->∀x,cs=[x]->(loadVar t ad).run P w= .ok x w):=by
 obtain⟨d,i,hd,hi,b,g⟩:=Xg ht;refine⟨λq=>?_,λq x u=>?_⟩
 ·have s:=Tb (P:=P) h;rw[y,<- g]at s;simp only[loadVar,Ed,Nb hd,Dy,b,q,AX,F8 hi,s];rfl
 subst q;subst u;have h0:=h 0 x rfl;have z:ad.add 0=ad:=by simp[Addr.add]
 rw[z]at h0;simp[loadVar,Nb hd,b,h0]
theorem XU{ι:AL}{st:St}{w:World}(H:HRel ι st.hp w){l q n:Nat}{cs:List V}(e:rd st.hp l q n=some cs):∃ws:List Value,ws.length=n/\cs.length=n/\(∀u,u∈cs->u.cell=true) /\
 (∀(j:Nat) y,ws[j]?=some y->w.cell? ((⟨(ι l).b,(ι l).o+q,none⟩:Addr).add j)=some y)/\∀(j:Nat) u y,cs[j]?=some u->ws[j]?=some y->∀β',Rel ι st.hp β' u y:=by
 obtain⟨b,M,J,C,rfl⟩:=Zjs e;have t:∀j,j<n->∃y,w.cell? ((⟨(ι l).b,(ι l).o+q,none⟩:Addr).add j)=some y/\∀u,b.cs[q+j]?=some u->u.cell=true/\∀β',Rel ι st.hp β' u y:=by
  intro j z;have F:q+j<b.cs.length:=(by omega);obtain⟨L,y,i,I⟩:=H.cells l b M J (q+j) _ (Bc F);refine⟨y,by rw[M6,Ug];exact i,λu s=>?_⟩;rw[Bc F]at s;cases s;exact⟨L,I⟩
 let ws:List Value:=(List.range n).map λj=>(w.cell? ((⟨(ι l).b,(ι l).o+q,none⟩:Addr).add j)).getD default;have A:∀j y,ws[j]?=some y->j<n/\w.cell? ((⟨(ι l).b,(ι l).o+q,none⟩:Addr).add j)=some y:=by
  intro j y i;have z:j<n:=by
   rcases Bz j n with h|h
   ·exact h
   simp[ws,h]at i
  obtain⟨G,g,_⟩:=t j z;simp[ws,z,g]at i;subst i;exact⟨z,g⟩
 refine⟨ws,by simp[ws],SV C,λu s=>?_,λj y i=>(A j y i).2,λj u y s i β'=>?_⟩
 ·obtain⟨k,x⟩:=Kg s;obtain⟨D,x⟩:=Fy x;obtain⟨_,_,h⟩:=t k D;exact(h u x).1
 obtain⟨z,s⟩:=Fy s;obtain⟨G,g,h⟩:=t j z;have:=(A j y i).2;rw[g]at this;cases this;exact(h u s).2 β'
section
variable {P:Program} {o:Oper} {a:Act} {ι:AL} {β:Nat->Nat} {st:St} {w0 w:World} {v:V} {bx:List (List V)} {hp:Ac}
 (H:HRel ι st.hp w) (B:BRel ι st.hp β st.bx w0 w) (S:SRel ι st.hp β st.sl a.tmps) {ι0:AL} {σ0:Ac} (T:Step ι0 σ0 w0 ι st.hp w)
include H B S T
theorem Zgd {t:TypeId} {f off:Nat} {n:Option Nat} {x:Operand} {A:T_} (F:o.op= .fieldAddr t x f) (G:M7 P t f off n=true) (D:AH x A=true)
 (e:Af (.f5 off A) st=some (v,bx,hp)):Out P o a ι0 σ0 w0 w st.sl v bx hp:=by
 have u:=BI D S;obtain⟨O,g,h1,M,L,J,I⟩:=kQ G;obtain⟨d,i,hd,hi,_,z⟩:=Xg J;have N:i.size≠0:=by
  rw[z];cases n with
  |none=>simp
  |some m=>simpa using I
 have go:∀b q,a.eval x= .pointer (some ⟨b,q,none⟩)->(execOp a.eval o).run P w= .ok (.value (.pointer (some ⟨b,q+off,none⟩))) w:=by
  intro b q y;simp[execOp,F,y,Instr.fieldAt,Dh h1,M,Instr.sureAddr,fieldPlace,F8 hi,N,M6,L]
 simp only[Af]at e;split at e
 ·rename_i j q s;rw[s]at u;have y:=TP u;cases e;exact Out.pure H B S T (go _ _ y) (.box _ _) rfl
 ·rename_i l q s;rw[s]at u;obtain⟨⟨Y_,C⟩,y⟩:=Ju u;cases e;have:=Rel.ptr (ι:=ι) (σ:=st.hp) (β:=β) l (q+off) Y_ C (Xt u C);exact Out.pure H B S T (go _ _ y) (by rwa [<- Ug]at this) rfl
 cases e
theorem Zg6 {t:TypeId} {f off:Nat} {n:Option Nat} {x:Operand} {I:T_} (L:o.op= .field t x f) (Y:M7 P t f off n=true) (R:AH x I=true)
 (e:Af (.field off n I) st=some (v,bx,hp)):Out P o a ι0 σ0 w0 w st.sl v bx hp:=by
 have J:=BI R S;obtain⟨fs,g,h1,N,M,Z,h5⟩:=kQ Y;obtain⟨d,i,hd,hi,s,D⟩:=Xg Z;simp only[Af]at e;split at e
 ·rename_i cs A;rw[A]at J;obtain⟨ws,O,hl,U,h⟩:=dz J;split at e
  ·rename_i F;simp only[Ci]at e;obtain⟨u,e1,e2⟩:=e;cases e2;have C:((ws.drop off).take (n.getD 1)).length=n.getD 1:=(by simp;omega);have G:=SV F;rcases XA (ι:=ι) (σ:=st.hp) (β:=β) (ws:=(ws.drop off).take (n.getD 1)) e1 (by rw[C,G])
    (λu q=>U u (List.mem_of_mem_drop (LZ q)))
    (λj u y q b=>by
     obtain⟨_,q⟩:=Fy q;obtain⟨_,b⟩:=Fy b;exact h _ _ _ q b)with⟨hn,hr⟩|⟨hn,y,b,hr⟩
   ·refine Out.pure H B S T ?_ hr rfl;simp[execOp,L,O,Instr.field,Dh h1,N,part,asAgg,Nb hd,s,hn,F8 hi,D,M,Yz]
   refine Out.pure H B S T ?_ hr rfl;subst hn;have z:ws[off]?=some y:=by
    have:((ws.drop off).take 1)[0]?=some y:=by
     have:=congrArg (λl:List Value=>l[0]?) b;simpa using this
    rw[JC]at this;simpa using this
   simp[execOp,L,O,Instr.field,Dh h1,N,part,asAgg,Nb hd,s,M,z]
  cases e
 cases e
theorem ZgM {t:TypeId} {b:Nat} {x i:Operand} {A D:T_} (J:o.op= .indexAddr t x i) (I:JE P t b=true) (G:AH x A=true) (hi:AH i D=true)
 (e:Af (.m_ b A D) st=some (v,bx,hp)):Out P o a ι0 σ0 w0 w st.sl v bx hp:=by
 have g:=BI G S;have C:=BI hi S;obtain⟨el,inf,z,h1,N,M,_,_,_⟩:=W4 I;simp only[Af]at e;split at e
 ·rename_i l q n k j s y;rw[s]at g;rw[y]at C;obtain⟨Y_,F,h⟩:=Gx g;have R:=E9 C;split at e
  ·rename_i L;cases e;rcases h with⟨c,O,U,Y⟩|⟨rfl,_⟩
   ·have:=Rel.ptr (ι:=ι) (σ:=st.hp) (β:=β) l (q+j.toNat*b) Y_ F (MN g F);refine Out.pure H B S T ?_ this rfl;have u:0<=j/\j<(n:Int):=L;simp[execOp,J,O,R,Instr.indexAt,asIntOf,Dh h1,u,F8 N,M,M6,Ug]
   omega
  cases e
 cases e
theorem Zia {t:TypeId} {x i:Operand} {u A:T_} (F:o.op= .index t x i) (ht:P.underlying t=some .string) (D:AH x u=true) (hi:AH i A=true)
 (e:Af (.index u A) st=some (v,bx,hp)):Out P o a ι0 σ0 w0 w st.sl v bx hp:=by
 have y:=BI D S;have z:=BI hi S;simp only[Af]at e;split at e
 ·rename_i s k j g n;rw[g]at y;rw[n]at z;have J:=Q7 y;have L:=E9 z;split at e
  ·rename_i G;split at e
   ·rename_i b C;cases e;refine Out.pure H B S T (x:=.int .u8 b.toNat) ?_ (.int _ _) rfl;have I:j.toNat<s.length:=(List.getElem?_eq_some_iff.1 C).1;have q:(⟨s.toArray⟩:ByteArray)[j.toNat]?=some b:=by
     rw[ByteArray.getElem?_lt' _ _ (by simpa [ByteArray.size]using I)];have:=(List.getElem?_eq_some_iff.1 C).2;exact congrArg some this
    simp[execOp,F,J,L,Instr.index,asIntOf,Dh ht,G,q]
   cases e
  cases e
 cases e
theorem Zg0{t:TypeId}{i:Nat}{n:Option Nat}{x:Operand}{Y:T_}(M:o.op= .load t x)(ht:Iv P t n=true)(hx:AH x Y=true)(e:Af (.d6 i n Y) st=some (v,bx,hp)):Out P o a ι0 σ0 w0 w st.sl v bx hp:=by
 have Z:=BI hx S;simp only[Af]at e;split at e
 ·rename_i j q L;rw[L]at Z;have R:=TP Z;split at e
  ·rename_i hc;obtain⟨rfl,A⟩:=hc;simp only[Ci]at e;obtain⟨u,U,e2⟩:=e;cases e2;by_cases h0:n.getD 1=0
   ·
    have F:n=some 0:=(by cases n with|none=>simp at h0|some m=>simpa using h0);subst F;simp[CS]at U;subst U;have:=(WY ht (w:=w) (ad:=⟨β i,q,none⟩) (cs:=[]) rfl (λj v h=>by simp at h)).1 rfl;exact Out.pure H B S T (x:=.agg #[]) (by simp[execOp,M,R,Instr.loadAt,Instr.sureAddr,this]) (.agg [] [] rfl (by simp) (by simp)) rfl
   have I:A3 st.bx i≠[]:=λh=>(by rw[h]at A;simp at A;omega);have O:st.bx[i]?=some (A3 st.bx i):=by
    rw[TX]at I ⊢;cases h:st.bx[i]? with
    |none=>rw[h]at I;exact absurd rfl I
    |some c=>rfl
   obtain⟨arr,el,G,hsz,b⟩:=B.cells i _ O I;have s:((arr.toList.drop q).take (n.getD 1)).length=n.getD 1:=(by simp;omega);have z:∀(j:Nat) y,((arr.toList.drop q).take (n.getD 1))[j]?=some y->w.cell? ((⟨β i,q,none⟩:Addr).add j)=some y:=by
    intro j y g;obtain⟨_,g⟩:=Fy g;rw[M6];simp only[World.cell?,G];simpa using g
   have hl:=WY (P:=P) ht s z;rcases XA (ι:=ι) (σ:=st.hp) (β:=β) (ws:=(arr.toList.drop q).take (n.getD 1)) U (by rw[s,SV A])
    (λu C=>by
     obtain⟨k,N⟩:=Kg C;obtain⟨_,N⟩:=Fy N;exact(b _ _ N).1)
    (λj u y C g=>by
     obtain⟨_,C⟩:=Fy C;obtain⟨_,y',J,D⟩:=b _ _ C;obtain⟨_,g⟩:=Fy g;have:arr[q+j]?=some y:=(by simpa using g);rw[J]at this;cases this;exact D _)with⟨F,D⟩|⟨F,y,g,D⟩
   ·exact Out.pure H B S T (by simp[execOp,M,R,Instr.loadAt,Instr.sureAddr,hl.1 F]) D rfl
   exact Out.pure H B S T (by simp[execOp,M,R,Instr.loadAt,Instr.sureAddr,hl.2 F y g]) D rfl
  cases e
 cases e
theorem oT{t:TypeId}{n:Option Nat}{x:Operand}{z:T_}(C:o.op= .load t x)(ht:Iv P t n=true)(G:AH x z=true)(e:Af (.g9 n z) st=some (v,bx,hp)):Out P o a ι0 σ0 w0 w st.sl v bx hp:=by
 have A:=BI G S;simp only[Af]at e;split at e
 ·rename_i l q g;rw[g]at A;obtain⟨_,F⟩:=Ju A;simp only[Ci]at e;obtain⟨cs,U,u,R,O⟩:=e;cases O;obtain⟨ws,h1,N,M,L,J⟩:=XU H U;have D:=WY (P:=P) ht h1 L;rcases XA (ι:=ι) (σ:=st.hp) (β:=β) R (by rw[h1,N]) M (λj u y I b=>J j u y I b _)with⟨s,i⟩|⟨s,y,b,i⟩
  ·exact Out.pure H B S T (by simp[execOp,C,F,Instr.loadAt,Instr.sureAddr,D.1 s]) i rfl
  exact Out.pure H B S T (by simp[execOp,C,F,Instr.loadAt,Instr.sureAddr,D.2 s y b]) i rfl
 cases e
end
def HP:Option Operand->Option T_->Bool
 |none,none=>true|some x,some y=>AH x y|_,_=>false
theorem lO{x:Option Operand}{y:Option T_}(h:HP x y=true){ι:AL}{σ:Ac}{β:Nat->Nat}{sl:List V}{a:Act}(S:SRel ι σ β sl a.tmps){d n:Nat}(e:Ey d (y.map (·.ev sl))=some n):(x=none/\n=d)\/∃q k i,x=some q/\a.eval q= .int k i/\0<=i/\n=i.toNat:=by
 cases x with
 | none=>cases y with
   |none=>simp[Ey]at e;exact .inl ⟨rfl,e.symm⟩
   |some y=>simp[HP]at h
 | some x=>cases y with
   |none=>simp[HP]at h
   | some y=>
     have b:=BI (show AH x y=true from h) S;simp only[Cw]at e;unfold Ey at e;split at e
     ·rename_i h1;cases h1
     ·rename_i k i h1;simp only[Ap]at h1;rw[h1]at b;split at e
      ·rename_i hi;cases e;exact .inr ⟨x,k,i,rfl,E9 b,hi,rfl⟩
      cases e
     cases e
theorem mi {P:Program} {w:World} {ι:AL} {σ:Ac} {β:Nat->Nat} {sl:List V} {a:Act} (S:SRel ι σ β sl a.tmps) {z hi:Option Operand} {g s:Option T_} (x:HP z g=true) (y:HP hi s=true)
 {isS:Bool} {j cap l h:Nat} (el:Ey 0 (g.map (·.ev sl))=some l) (D:Ey j (s.map (·.ev sl))=some h) (h1:l<=h) (G:h<=cap) (F:hi=none->h<=cap):
 (Instr.sliceBounds isS j cap (z.map a.eval) (hi.map a.eval) none).run P w= .ok (l,h,cap) w:=by
 rcases lO x S el with⟨rfl,rfl⟩|⟨q,k,i,rfl,C,n,rfl⟩<;>rcases lO y S D with⟨rfl,rfl⟩|⟨q',A,u,rfl,t,b,rfl⟩
 ·simp[Instr.sliceBounds]
 ·simp[Instr.sliceBounds,t,Yg w A u cap _ b (by omega)]
 ·simp[Instr.sliceBounds,C,Yg w k i h _ n (by omega)]
 simp[Instr.sliceBounds,C,t,Yg w A u cap _ b (by omega),Yg w k i u.toNat _ n (by omega)]
theorem Zfa{ι:AL}{β:Nat->Nat}{st:St}{cs:List V}{ws:List Value}{s:List UInt8}(e:Re cs=some s)(q:cs.length=ws.length)(h:∀(j:Nat) u y,cs[j]?=some u->ws[j]?=some y->Rel ι st.hp β u y):∃b:List Int,ws=b.map (Value.int .u8)/\s=b.map λn=>UInt8.ofNat n.toNat:=by
 induction cs generalizing ws s with
 | nil=>cases ws with
   |nil=>simp[Re]at e;exact⟨[],rfl,by simpa using e.symm⟩
   |cons=>simp at q
 | cons c r ih=>cases ws with
   |nil=>simp at q
   | cons y ys=>
     have h0:=h 0 c y rfl rfl;unfold Re at e;split at e
     ·rename_i h1;cases h1
     ·rename_i n r' h1;cases h1;simp only[Ch]at e;obtain⟨C,A,z⟩:=e;obtain⟨b,i,g⟩:=ih A (by simpa using q) (λj u y x t=>h (j+1) u y (by simpa using x) (by simpa using t));exact⟨n::b,by rw[E9 h0,i];rfl,by rw[<- z,g];rfl⟩
     cases e
section
variable {P:Program} {o:Oper} {a:Act} {ι:AL} {β:Nat->Nat} {st:St} {w0 w:World} {v:V} {bx:List (List V)} {hp:Ac}
 (H:HRel ι st.hp w) (B:BRel ι st.hp β st.bx w0 w) (S:SRel ι st.hp β st.sl a.tmps) {ι0:AL} {σ0:Ac} (T:Step ι0 σ0 w0 ι st.hp w)
include H B S T
theorem Zij {t:TypeId} {M:Nat} {x:Operand} {lo hi:Option Operand} {Z:T_} {A D:Option T_} (ho:o.op= .slice t x lo hi none) (hw:JE P t M=true) (hx:AH x Z=true) (R:HP lo A=true) (Y:HP hi D=true)
 (e:Af (.slice M Z A D) st=some (v,bx,hp)):Out P o a ι0 σ0 w0 w st.sl v bx hp:=by
 have y:=BI hx S;obtain⟨el,inf,z,h1,h2,h3,_,_,_⟩:=W4 hw;have go:∀(b:Option Addr) (n c l h:Nat),a.eval x= .slice b n c->Ey 0 (A.map (·.ev st.sl))=some l->Ey n (D.map (·.ev st.sl))=some h->l<=h->h<=c ->
  (execOp a.eval o).run P w= .ok (.value (.slice (if c=l then b else b.map (·.add (l*M))) (h-l) (c-l))) w:=by
  intro b n c l h G i j O N;have u:=mi (P:=P) (w:=w) S R Y (isS:=true) (cap:=c) i j O N (λ_=>N);simp only[execOp,ho,G,Instr.sliceAt,Ed,Dh h1,Dy,Instr.slice,Option.map_none];simp only[u,Dy,F8 h2,h3];rfl
 simp only[Af]at e;split at e
 ·rename_i C;rw[C]at y;obtain⟨b,G⟩:=QM y;simp only[Ci]at e;obtain⟨l,i,h,j,e⟩:=e;split at e
  ·rename_i hz;obtain⟨rfl,rfl⟩:=hz;cases e;have:=go b 0 0 0 0 G i j (BN _) (BN _);exact Out.pure H B S T this (by simpa using Rel.X_ b) rfl
  cases e
 ·rename_i l q n C;rw[C]at y;obtain⟨Y_,u,F⟩:=Gx y;simp only[Ci]at e;obtain⟨g,i,s,j,e⟩:=e;split at e
  ·rename_i U;obtain⟨O,N,L⟩:=U;simp only[EO,u,Ap]at L;cases e;rcases F with⟨c,G,hn,hc⟩|⟨rfl,b,G⟩
   ·have I:=go _ n c g s G i j O (CW N hn);refine Out.pure H B S T I ?_ rfl;by_cases J:c=g
    ·have e1:s-g=0:=(by omega);have e2:c-g=0:=(by omega);rw[Ad J,e1,e2];exact .sliceEnd l _ Y_ u _ (MN y u)
    rw[Ae J];have hm:(c-g)*Y_.w+g*Y_.w=c*Y_.w:=(by rw[<- D2];congr 1;omega);have:=Rel.slice (ι:=ι) (σ:=st.hp) (β:=β) l (q+g*M) (s-g) (c-g) Y_ u (by omega) (by rw[<- L];omega) (MN y u);simpa [M6,Ug]using this
   have h0:g=0/\s=0:=(by omega);obtain⟨rfl,rfl⟩:=h0;have:=go b 0 0 0 0 G i j (BN _) (BN _);exact Out.pure H B S T this (by simpa using Rel.sliceEnd l q Y_ u b (MN y u)) rfl
  cases e
 cases e
theorem ZfY {t:TypeId} {x:Operand} {D hi:Option Operand} {A:T_} {g i:Option T_} (G:o.op= .slice t x D hi none) (ht:P.underlying t=some .string) (n:AH x A=true) (q:HP D g=true) (u:HP hi i=true)
 (e:Af (.substr A g i) st=some (v,bx,hp)):Out P o a ι0 σ0 w0 w st.sl v bx hp:=by
 have C:=BI n S;simp only[Af]at e;split at e
 ·rename_i s j;rw[j]at C;have J:=Q7 C;simp only[Ci]at e;obtain⟨l,y,h,z,e⟩:=e;split at e
  ·rename_i b;cases e;have F:(ByteArray.mk s.toArray).size=s.length:=YS;have I:=mi (P:=P) (w:=w) S q u (isS:=false) (cap:=s.length) y z b.1 b.2 (λ_=>b.2);refine Out.pure H B S T (x:=.string ⟨((s.drop l).take (h-l)).toArray⟩) ?_ (.str _) rfl;simp only[execOp,G,J,Instr.sliceAt,Ed,Dh ht,Dy,Instr.slice,Option.map_none];simp only[Ed,Dy,I,F,Option.isSome_none,AZ,A5];have n:(ByteArray.mk s.toArray).extract l h=⟨((s.drop l).take (h-l)).toArray⟩:=by
    apply ByteArray.ext;simp[Yz]
   simp[n]
  cases e
 cases e
theorem Zi0 {s d el:TypeId} {x:Operand} {L:T_} (ho:o.op= .convert s d x) (hs:P.underlying s=some (.slice el)) (I:P.underlying el=some (.int .u8)) (hd:P.underlying d=some .string) (Z:AH x L=true)
 (e:Af (.bstr L) st=some (v,bx,hp)):Out P o a ι0 σ0 w0 w st.sl v bx hp:=by
 have D:=BI Z S;have go:∀b n c,a.eval x= .slice b n c->(execOp a.eval o).run P w=((Conv.bytesToString (.slice b n c)).run P w).andThen λu w'=>.ok (.value u) w':=by
  intro b n c C;simp[execOp,ho,C,convert,Dh hs,Dh hd,Dh I]
 simp only[Af]at e;split at e
 ·rename_i i;rw[i]at D;obtain⟨b,C⟩:=QM D;cases e;refine Out.pure H B S T (x:=.string ⟨#[]⟩) ?_ (.str []) rfl;rw[go _ _ _ C];cases b with
  |none=>simp[Conv.bytesToString];rfl
  | some b=>
    have:=dF (P:=P) w b 0 0 [] (by simp[loadCells,loadCellsFrom]);rw[this];rfl
 ·rename_i l q n i;rw[i]at D;obtain⟨Y_,hb,A⟩:=Gx D;simp only[Ci]at e;obtain⟨cs,e0,t,J,e2⟩:=e;cases e2;obtain⟨ws,N,M,q3,U,R⟩:=XU H e0;obtain⟨g,G,F⟩:=Zfa (β:=β) J (by rw[N,M]) (λj u y hu Y=>R j u y hu Y _);have z:∀(g:List Int) (r:ByteArray),g.foldl (λr n=>r.push (UInt8.ofNat n.toNat)) r=⟨r.data++(g.map λn=>UInt8.ofNat n.toNat).toArray⟩:=by
   intro g;induction g with
   |nil=>intro r;simp
   | cons n g ih=>
     intro r;rw[List.foldl_cons,ih];apply ByteArray.ext;apply Array.ext';simp[ByteArray.push]
  rcases A with⟨c,C,_,_⟩|⟨rfl,b,C⟩
  ·refine Out.pure H B S T (x:=.string ⟨t.toArray⟩) ?_ (.str _) rfl;rw[go _ _ _ C];have O:=Tb (P:=P) U;rw[N]at O;rw[dF (P:=P) w _ n c g (by rw[O,G])];rw[z,F];simp[ByteArray.empty,ByteArray.emptyWithCapacity];rfl
  have ht:t=[]:=by
   have:cs=[]:=List.length_eq_zero_iff.1 M;subst this;simp[Re]at J;exact J
  subst ht;refine Out.pure H B S T (x:=.string ⟨#[]⟩) ?_ (.str []) rfl;rw[go _ _ _ C];cases b with
  |none=>simp[Conv.bytesToString];rfl
  | some b=>
    have:=dF (P:=P) w b 0 0 [] (by simp[loadCells,loadCellsFrom]);rw[this];rfl
 cases e
end
def NK(P:Program)(f:TypeId->Option (Option Nat)):List Field->Nat->Option Nat
 |[],off=>some off| g::r,off=>
   match f g.type with
   |some m=>if g.name != "_"&&g.offset == off&&Iv P g.type m then NK P f r (off+m.getD 1)else none
   |none=>none
def Ms(P:Program):Nat->TypeId->Option (Option Nat)
 |0,_=>none| d+1,t=>
   match P.underlying t with
   |some (.int _)=>some none
   |some (.struct fs)=>if P.stoodInHeld t then none else (NK P (Ms P d) fs.toList 0).map some
   |_=>none
theorem ll:∀(A A' B g:List V) (b:Bool),A.length=A'.length->Ex (A++B) (A'++g)=some b ->
 (Ex A A'=some false/\b=false)\/(Ex A A'=some true/\Ex B g=some b)
 |[],[],B,g,b,_,h=>.inr ⟨rfl,h⟩
 |[],_::_,_,_,_,h,_=>by simp at h
 |_::_,[],_,_,_,h,_=>by simp at h
 | x :: A,y::A',B,g,b,hl,h=>by
   simp only[Dz,Ex]at h ⊢;cases i:Rf x y with
   |none=>simp[i]at h
   | some t=>
     cases t with
     |false=>simp[i]at h;exact .inl ⟨rfl,h⟩
     |true=>simp only[i]at h ⊢;exact ll A A' B g b (by simpa using hl) h
theorem mY{α:Type}(l:List α)(o k n:Nat)(h:o+k<=n):(l.take n).drop o=((l.drop o).take k)++((l.take n).drop (o+k)):=by
 have e:=(List.take_append_drop k ((l.take n).drop o)).symm;rw[List.drop_drop]at e;have b:((l.take n).drop o).take k=(l.drop o).take k:=by
  rw[List.drop_take,List.take_take];congr 1;omega
 rw[b]at e;exact e
theorem pT {P:Program}{w:World}:∀(d:Nat) (t:TypeId) (m:Option Nat),Ms P d t=some m->∀(ι:AL) (σ:Ac) (β:Nat->Nat) (cs u:List V) (j q:List Value) (b:Bool),
 cs.length=m.getD 1->u.length=m.getD 1->j.length=m.getD 1->q.length=m.getD 1 ->
 (∀(i:Nat) v x,cs[i]?=some v->j[i]?=some x->Rel ι σ β v x)->(∀(i:Nat) v x,u[i]?=some v->q[i]?=some x->Rel ι σ β v x)->Ex cs u=some b->∀I,d<=I ->
 (m.isSome=true->(Op.equalIn I t (.agg j.toArray) (.agg q.toArray)).run P w= .ok b w)/\(m=none->∀x y,j=[x]->q=[y]->(Op.equalIn I t x y).run P w= .ok b w)
 |0,_,_,h=>by simp[Ms]at h
 | d + 1, t, m, h => by
   intro ι σ β cs u j q b lc ld lx ly hx hy e I hd;obtain⟨s,rfl⟩:∃s,I=s+1:=⟨I-1,by omega⟩;unfold Ms at h;split at h
   ·rename_i _ k ht;cases h;refine⟨λh=>by simp at h,λ_ x y ex ey=>?_⟩;subst ex;subst ey
    match cs,u,lc,ld with
    | [c],[c'],_,_=>
      have rx:=hx 0 c x rfl rfl;have ry:=hy 0 c' y rfl rfl;have e0:Rf c c'=some b:=by
       unfold Ex at e;cases O:Rf c c' with
       |none=>simp[O]at e
       |some t=>cases t<;>simp[O,Ex]at e<;>simp[e]
      cases c<;>cases c'<;>simp[Rf]at e0;rw[E9 rx,E9 ry];obtain⟨rfl,e0⟩:=e0;rw[run_equalIn_int w s t _ k _ _ ht,e0]
   ·rename_i fs ht; split at h
    ·cases h
    rename_i hst; simp only[Ch]at h;obtain⟨n,hn,rfl⟩:=h;refine⟨λ_=>?_,λh=>by cases h⟩;have hf:P.fieldsOf t=fs:=(by simp[Program.fieldsOf,ht]);rw[run_equalIn_struct w s t _ _ (by rw[hf];exact ht) (by simpa using hst),hf];simp only[Jr]at lc ld lx ly;have key:∀(r:List Field) (off n:Nat),NK P (Ms P d) r off=some n->off<=n->n<=cs.length->n<=j.length->cs.length=u.length->j.length=q.length->∀b,Ex ((cs.take n).drop off) ((u.take n).drop off)=some b ->
     (Op.eqFields s j.toArray q.toArray r).run P w= .ok b w:=by
     intro r;induction r with
     | nil=>
       intro off n z _ h1 h2 h3 h4 b G;simp[NK]at z;subst z;have z1:(cs.take off).drop off=[]:=(by simp);have z2:(u.take off).drop off=[]:=(by simp);rw[z1,z2]at G;simp[Ex]at G;subst G;simp[Op.eqFields]
     | cons g r ih=>
       intro off n z hon h1 h2 h3 h4 b G;simp only[NK]at z;split at z
       ·rename_i m hm;split at z
        ·rename_i O;simp only[Aj,TV,Hu,Bb]at O;obtain⟨⟨c1,c2⟩,c3⟩:=O;obtain⟨dd,inf,Z,q2,F,Y⟩:=Xg c3;have J:∀(r:List Field) (off n:Nat),NK P (Ms P d) r off=some n->off<=n:=by
          intro r;induction r with
          |nil=>intro off n h;simp[NK]at h;omega
          | cons g r ih=>
            intro off n h;simp only[NK]at h;split at h
            ·split at h
             ·have:=ih _ _ h;omega
             cases h
            cases h
         have A:=J r _ n z;have sp1:=mY cs off (m.getD 1) n A;have sp2:=mY u off (m.getD 1) n A;rw[sp1,sp2]at G;have l1:((cs.drop off).take (m.getD 1)).length=m.getD 1:=(by simp;omega);have l2:((u.drop off).take (m.getD 1)).length=m.getD 1:=(by simp;omega);have l3:((j.drop off).take (m.getD 1)).length=m.getD 1:=(by simp;omega);have l4:((q.drop off).take (m.getD 1)).length=m.getD 1:=(by simp;omega);have C:∀b',Ex ((cs.drop off).take (m.getD 1)) ((u.drop off).take (m.getD 1))=some b' ->
          ∃U R,(part g.type j.toArray g.offset).run P w= .ok U w/\(part g.type q.toArray g.offset).run P w= .ok R w/\(Op.equalIn s g.type U R).run P w= .ok b' w:=by
          intro b' hb';have L:=pT (P:=P) (w:=w) d g.type m hm ι σ β _ _ ((j.drop off).take (m.getD 1)) ((q.drop off).take (m.getD 1)) b' l1 l2 l3 l4
           (λi v x hv D=>hx _ v x (Fy hv).2 (Fy D).2) (λi v x hv D=>hy _ v x (Fy hv).2 (Fy D).2) hb' s (by omega)
          cases m with
          | some k=>
            refine⟨.agg ((j.drop off).take k).toArray,.agg ((q.drop off).take k).toArray,?_,?_,L.1 rfl⟩
            ·simp only[Option.isSome_some,Jr]at F Y;simp[part,Nb Z,F,F8 q2,Y,c2,Yz]
            simp only[Option.isSome_some,Jr]at F Y;simp[part,Nb Z,F,F8 q2,Y,c2,Yz]
          | none=>
            simp only[Option.getD_none]at l3 l4 A;have N:off<j.length:=(by omega);have M:off<q.length:=(by omega);have ex:(j.drop off).take 1=[j[off]]:=(by rw[Rh N];rfl);have ey:(q.drop off).take 1=[q[off]]:=(by rw[Rh M];rfl);refine⟨j[off],q[off],?_,?_,L.2 rfl _ _ ex ey⟩
            ·simp[part,Nb Z,F,c2,N]
            simp[part,Nb Z,F,c2,M]
         rcases ll _ _ _ _ b (by rw[l1,l2]) G with⟨e1,rfl⟩|⟨e1,e2⟩
         ·obtain⟨U,R,p1,p2,p3⟩:=C _ e1;simp[Op.eqFields,c1,p1,p2,p3]
         obtain⟨U,R,p1,p2,p3⟩:=C _ e1;have:=ih _ n z A h1 h2 h3 h4 b e2;simp[Op.eqFields,c1,p1,p2,p3,this]
        cases z
       cases z
    refine key fs.toList 0 n hn (Ec _) (by omega) (by omega) (by omega) (by omega) b ?_;have t1:cs.take n=cs:=Ui (by omega);have t2:u.take n=u:=Ui (by omega);simpa [t1,t2]using e
   cases h
section
variable {P:Program} {o:Oper} {a:Act} {ι:AL} {β:Nat->Nat} {st:St} {w0 w:World} {v:V} {bx:List (List V)} {hp:Ac}
 (H:HRel ι st.hp w) (B:BRel ι st.hp β st.bx w0 w) (S:SRel ι st.hp β st.sl a.tmps) {ι0:AL} {σ0:Ac} (T:Step ι0 σ0 w0 ι st.hp w)
include H B S T
theorem ZjX {op:BinOp} {t u:TypeId} {n:Nat} {i:Bool} {x y:Operand} {C A:T_} (R:o.op= .binOp op t x y u) (j:op=if i then .neq else .eql) (U:P.eqGuardType P.depth t=false) (Y:Ms P 50 t=some (some n))
 (O:AH x C=true) (N:AH y A=true) (e:Af (.eqA n i C A) st=some (v,bx,hp)):Out P o a ι0 σ0 w0 w st.sl v bx hp:=by
 have F:=BI O S;have D:=BI N S;simp only[Af]at e;split at e
 ·rename_i cs ds s q;rw[s]at F;rw[q]at D;obtain⟨ws,ex,M,_,J⟩:=dz F;obtain⟨us,Z,L,_,I⟩:=dz D;split at e
  ·rename_i g;simp only[Ci]at e;obtain⟨b,e1,e2⟩:=e;cases e2;have G:=(pT (P:=P) (w:=w) 50 t (some n) Y ι st.hp β cs ds ws us b g.1 g.2 (by rw[<- M];exact g.1) (by rw[<- L];exact g.2) J I e1 10000 (by omega)).1 rfl;have z:=run_eqGuard_agg (P:=P) w op t x y ws.toArray us.toArray U;refine Out.pure H B S T (x:=.bool (if i=true then !b else b)) ?_ (.bool _) rfl;simp only[execOp,R,ex,Z,Ed,z,Dy];cases i
   ·simp only[AZ,A5]at j;subst j;simp[run_eql_struct,G]
   simp only[AX]at j;subst j;simp[run_neq_struct,G]
  cases e
 cases e
end
def upd{α:Type}(f:Nat->α)(i:Nat)(x:α):Nat->α:=λj=>if j=i then x else f j
theorem CR{α:Type}(f:Nat->α)(i:Nat)(x:α):upd f i x i=x:=by simp[upd]
theorem DX{α:Type}(f:Nat->α)(i j:Nat)(x:α)(h:j≠i):upd f i x j=f j:=by simp[upd,h]
def o_(ι:AL)(σ:Ac)(cs:List V)(ws:List Value):Prop:=cs.length<=ws.length/\∀(i:Nat) v,cs[i]?=some v->v.cell=true/\∃x,ws[i]?=some x/\∀β,Rel ι σ β v x
theorem o_.mono{ι ι':AL}{σ σ':Ac}{cs:List V}{ws:List Value}(h:o_ ι σ cs ws)(k:Keeps ι σ ι' σ'):o_ ι' σ' cs ws:=⟨h.1,λi v g=>let ⟨a,x,b,c⟩:=h.2 i v g;⟨a,x,b,λβ=>(c β).cellMono k a⟩⟩
theorem Rel.oneCell{ι:AL}{σ:Ac}{β:Nat->Nat}{v:V}{x:Value}(h:Rel ι σ β v x)(b:v.cell=true):x.oneCell'=true:=by
 cases h<;>first|rfl|simp[V.cell]at b
theorem SZ{ι:AL}{σ:Ac}{β:Nat->Nat}{v:V}{x:Value}(h:Rel ι σ β v x)(j:v.cells.all V.cell=true):o_ ι σ v.cells x.cells.toList:=by
 obtain⟨h1,n⟩:=h.cells j;refine⟨by simp[h1],λi u g=>?_⟩;obtain⟨a,y,b,c⟩:=n i u g;exact⟨a,y,by simpa using b,c⟩
theorem o_.agg{ι:AL}{σ:Ac}{β:Nat->Nat}{cs:List V}{ws:List Value}(h:o_ ι σ cs ws)(q:cs.length=ws.length):Rel ι σ β (.agg cs) (.agg ws.toArray):=
 .agg cs ws q (λv b=>by obtain⟨i,hi⟩:=Kg b;exact(h.2 i v hi).1)
  (λi v x b g=>by obtain⟨_,y,j,n⟩:=h.2 i v b;rw[j]at g;cases g;exact n β)
theorem o_.e_{ι:AL}{σ:Ac}{cs g:List V}{ws us:List Value}{o:Nat}(h:o_ ι σ cs ws)(k:o_ ι σ g us)(s:g.length=us.length)(n:o+g.length<=cs.length):o_ ι σ (Ag.e_ cs o g) (ws.take o++us++ws.drop (o+us.length)):=by
 have h1:=h.1;refine⟨by simp[Hf];omega,λi v j=>?_⟩;rw[Xc cs o g i n]at j;by_cases hi:o<=i/\i<o+g.length
 ·rw[Ad hi]at j;obtain⟨a,x,b,c⟩:=k.2 _ v j;refine⟨a,x,?_,c⟩;rw[Cj,Dj (by simp;omega),Bp (by simp;omega)];have:min o ws.length=o:=(by omega);simpa [this]using b
 rw[Ae hi]at j;obtain⟨a,x,b,c⟩:=h.2 i v j;refine⟨a,x,?_,c⟩;by_cases q:i<o
 ·rw[Cj,Bp (by simp;omega),JC,Ad q];exact b
 rw[Dj (by simp;omega),L4];have e:o+us.length+(i-(ws.take o++us).length)=i:=by simp;omega
 rw[e];exact b
theorem SRel.mono{ι ι':AL}{σ σ':Ac}{β:Nat->Nat}{sl:List V}{tmps:Array Value}(h:SRel ι σ β sl tmps)(k:Keeps ι σ ι' σ'):SRel ι' σ' β sl tmps:=⟨h.1,λi=>(h.2 i).mono k λ_ _ _=>rfl⟩
theorem BRel.mono {ι ι':AL} {σ σ':Ac} {β:Nat->Nat} {bx:List (List V)} {w0 w w':World} (h:BRel ι σ β bx w0 w) (k:Keeps ι σ ι' σ')
 (g:∀(i:Nat) cs,bx[i]?=some cs->cs≠[]->w'.heap[β i]?=w.heap[β i]?) (hs:w.heap.size<=w'.heap.size)
 (q:∀(i:Nat) cs (l:Nat) (Y_:Blk),bx[i]?=some cs->cs≠[]->σ'[l]?=some Y_->Y_.k≠.dead->(ι' l).b≠β i):BRel ι' σ' β bx w0 w' where
 cells i cs hi f9:=by
  obtain⟨arr,e,h1,t,s⟩:=h.cells i cs hi f9;refine⟨arr,e,by rw[g i cs hi f9];exact h1,t,λj v n=>?_⟩;obtain⟨a,x,b,c⟩:=s j v n;exact⟨a,x,b,λβ'=>(c β').cellMono k a⟩
 new i cs hi f9:=⟨(h.new i cs hi f9).1,Ih (h.new i cs hi f9).2 hs⟩
 apart:=h.apart
 heap:=q
theorem Oh(w:World)(ob:Obj)(k:Nat)(h:k<w.heap.size):(w.alloc ob).heap[k]?=w.heap[k]?:=heap_alloc_old w ob k h
theorem HRel.alloc{ι:AL}{σ:Ac}{w:World}(h:HRel ι σ w)(ob:Obj):HRel ι σ (w.alloc ob) where
 cells l Y_ hl hk i v hv:=by
  obtain⟨a,x,b,c⟩:=h.cells l Y_ hl hk i v hv;exact⟨a,x,by rw[Yf (w:=w) (Oh w ob _ (h.there l Y_ hl hk))];exact b,c⟩
 own l Y_ hl hk:=by
  obtain⟨a,b,arr,e,c,d⟩:=h.own l Y_ hl hk;exact⟨a,b,arr,e,by rw[Oh w ob _ (h.there l Y_ hl (by rw[hk];decide))];exact c,d⟩
 apart:=h.apart
 there l Y_ hl hk:=by have:=h.there l Y_ hl hk;simp;omega
theorem Step.alloc(ι:AL)(σ:Ac)(w:World)(ob:Obj):Step ι σ w ι σ (w.alloc ob):={ Step.refl ι σ w with frame:=λb g _=>Oh w ob b g,size:=by simp }
theorem BRel.alloc{ι:AL}{σ:Ac}{β:Nat->Nat}{bx:List (List V)}{w0 w:World}(h:BRel ι σ β bx w0 w)(ob:Obj):BRel ι σ β bx w0 (w.alloc ob):=h.mono (.refl _ _) (λi cs hi b=>Oh w ob _ (h.new i cs hi b).2) (by simp) h.heap
theorem BRel.drew{ι:AL}{σ:Ac}{β:Nat->Nat}{bx:List (List V)}{w0 w:World}(h:BRel ι σ β bx w0 w):BRel ι σ β bx w0 w.drew:=h.mono (.refl _ _) (λ_ _ _ _=>rfl) (BN _) h.heap
theorem Tj(ι:AL)(σ:Ac)(p:Place)(Y_:Blk):Keeps ι σ (upd ι σ.length p) (σ++[Y_]) where
 place l b h:=DX _ _ _ _ (by have:=BB h;omega)
 width l b h:=⟨b,by rw[Bp (BB h)];exact h,rfl⟩
theorem GB{σ:Ac}{Y_ b:Blk}{l:Nat}(h:(σ++[Y_])[l]?=some b):(l<σ.length/\σ[l]?=some b)\/(l=σ.length/\b=Y_):=by
 by_cases g:l<σ.length
 ·rw[Bp g]at h;exact .inl ⟨g,h⟩
 rw[Dj (by omega)]at h;have:l-σ.length=0:=by
  rcases fq (l-σ.length)with h0|h0
  ·exact h0
  rw[BR (by simp;omega)]at h;cases h
 rw[this]at h;simp at h;exact .inr ⟨by omega,h.symm⟩
theorem HRel.adopt {ι:AL} {σ:Ac} {w:World} (h:HRel ι σ w) {b:Nat} {arr:Array Value} {e:TypeId} {wd:Nat} {cs:List V} (u:w.heap[b]?=some (.cells arr e (0,0)))
 (j:∀(l:Nat) (Y_:Blk),σ[l]?=some Y_->Y_.k≠.dead->(ι l).b≠b) (G:o_ ι σ cs arr.toList):HRel (upd ι σ.length ⟨b,0,arr.size⟩) (σ++[⟨.own,wd,cs⟩]) w:=by
 have K:=Tj ι σ ⟨b,0,arr.size⟩ ⟨.own,wd,cs⟩;have y:b<w.heap.size:=by
  rcases Bz b w.heap.size with q|q
  ·exact q
  rw[Array.getElem?_eq_none q]at u;cases u
 refine⟨λl Y_ g s i v D=>?_,λl Y_ g s=>?_,λl l' Y_ C I g n s t=>?_,λl Y_ g s=>?_⟩
 ·rcases GB g with⟨z,g⟩|⟨rfl,rfl⟩
  ·rw[DX _ _ _ _ (by omega)];obtain⟨a,x,A,c⟩:=h.cells l Y_ g s i v D;exact⟨a,x,A,λβ=>(c β).cellMono K a⟩
  rw[CR];obtain⟨a,x,A,c⟩:=G.2 i v D;refine⟨a,x,?_,λβ=>(c β).cellMono K a⟩;simp only[World.cell?,u];simpa using A
 ·rcases GB g with⟨z,g⟩|⟨rfl,rfl⟩
  ·rw[DX _ _ _ _ (by omega)];exact h.own l Y_ g s
  rw[CR];exact⟨rfl,by simpa using G.1,arr,e,u,rfl⟩
 ·rcases GB g with⟨z,g⟩|⟨rfl,rfl⟩<;>rcases GB n with⟨F,n⟩|⟨rfl,rfl⟩
  ·rw[DX _ _ _ _ (by omega),DX _ _ _ _ (by omega)];exact h.apart l l' Y_ C I g n s t
  ·rw[DX _ _ _ _ (by omega),CR];exact j l Y_ g (by rw[s];decide)
  ·rw[CR,DX _ _ _ _ (by omega)];exact λq=>j l' C n t q.symm
  exact absurd rfl I
 rcases GB g with⟨z,g⟩|⟨rfl,rfl⟩
 ·rw[DX _ _ _ _ (by omega)];exact h.there l Y_ g s
 rw[CR];exact y
theorem TI {ι:AL} {σ:Ac} {β:Nat->Nat} {bx:List (List V)} {w0 w:World} {sl:List V} {tmps:Array Value} (h:HRel ι σ w) (B:BRel ι σ β bx w0 w) (S:SRel ι σ β sl tmps) (arr:Array Value) (e:TypeId) (wd:Nat) (cs:List V)
 (u:o_ ι σ cs arr.toList):
 HRel (upd ι σ.length ⟨w.heap.size,0,arr.size⟩) (σ++[⟨.own,wd,cs⟩]) (w.alloc (.cells arr e))/\BRel (upd ι σ.length ⟨w.heap.size,0,arr.size⟩) (σ++[⟨.own,wd,cs⟩]) β bx w0 (w.alloc (.cells arr e)) /\
 SRel (upd ι σ.length ⟨w.heap.size,0,arr.size⟩) (σ++[⟨.own,wd,cs⟩]) β sl tmps/\Step ι σ w (upd ι σ.length ⟨w.heap.size,0,arr.size⟩) (σ++[⟨.own,wd,cs⟩]) (w.alloc (.cells arr e)):=by
 have K:=Tj ι σ ⟨w.heap.size,0,arr.size⟩ ⟨.own,wd,cs⟩;refine⟨(h.alloc (.cells arr e)).adopt (heap_alloc_new w _) (λl Y_ g n=>by have:=h.there l Y_ g n;omega) u,?_,S.mono K,?_⟩
 ·refine B.mono K (λi cs hi q=>Oh w _ _ (B.new i cs hi q).2) (by simp) λi cs l Y_ hi q g n=>?_;rcases GB g with⟨y,g⟩|⟨rfl,rfl⟩
  ·rw[DX _ _ _ _ (by omega)];exact B.heap i cs l Y_ hi q g n
  rw[CR];have:=(B.new i cs hi q).2;show w.heap.size≠β i;omega
 refine { keeps:=K,kinds:=λl Y_ s g j=>?_,fresh:=λl s t g n=>?_,frame:=λb x _=>Oh w _ b x,size:=by simp,os:=rfl,output:=rfl,tape:=rfl }
 ·rw[Bp (BB g),g]at j;cases j;exact .inl rfl
 rcases GB g with⟨y,g⟩|⟨rfl,rfl⟩
 ·omega
 rw[CR];exact⟨rfl,.inl (BN _)⟩
theorem Ie{σ:Ac}{l j:Nat}{Y_ b:Blk}(h:(σ.set l Y_)[j]?=some b):(j=l/\b=Y_/\l<σ.length)\/(j≠l/\σ[j]?=some b):=by
 rw[Hw]at h;split at h
 ·rename_i e;split at h
  ·cases h;exact .inl ⟨e.symm,rfl,by assumption⟩
  cases h
 rename_i e;exact .inr ⟨λq=>e q.symm,h⟩
theorem Xy(ι:AL)(σ:Ac)(l:Nat)(Y_ g:Blk)(h:σ[l]?=some Y_)(i:g.w=Y_.w):Keeps ι σ ι (σ.set l g) where
 place _ _ _:=rfl
 width j b hj:=by
  by_cases e:l=j
  ·subst e;rw[h]at hj;cases hj;exact⟨g,by rw[Hw,Ad rfl,Ad (BB h)],i⟩
  exact⟨b,by rw[Hw,Ae e];exact hj,rfl⟩
theorem HRel.kill{ι:AL}{σ:Ac}{w:World}(h:HRel ι σ w){l:Nat}{Y_:Blk}(z:σ[l]?=some Y_):HRel ι (σ.set l ⟨.dead,Y_.w,[]⟩) w:=by
 have K:=Xy ι σ l Y_ ⟨.dead,Y_.w,[]⟩ z rfl;refine⟨λj b g n i v y=>?_,λj b g n=>?_,λj u b t A g q n s=>?_,λj b g n=>?_⟩
 ·rcases Ie g with⟨_,rfl,_⟩|⟨_,g⟩
  ·exact absurd rfl n
  obtain⟨a,x,t,c⟩:=h.cells j b g n i v y;exact⟨a,x,t,λβ=>(c β).cellMono K a⟩
 ·rcases Ie g with⟨_,rfl,_⟩|⟨_,g⟩
  ·cases n
  exact h.own j b g n
 ·rcases Ie g with⟨_,rfl,_⟩|⟨_,g⟩
  ·cases n
  rcases Ie q with⟨_,rfl,_⟩|⟨_,q⟩
  ·exact absurd rfl s
  exact h.apart j u b t A g q n s
 rcases Ie g with⟨_,rfl,_⟩|⟨_,g⟩
 ·exact absurd rfl n
 exact h.there j b g n
theorem VX{ws:List Value}{cs:List V}(h:GG ws cs=true)(ι:AL)(σ:Ac):o_ ι σ cs ws:=⟨by rw[Tc h];exact BN _,λi v b=>let ⟨x,hx,hc⟩:=kT h i v b;⟨kM hc,x,hx,λβ=>bd hc ι σ β⟩⟩
def Jy(P:Program)(t:TypeId)(b:List V):Bool:=
 match P.info? t with
 |some i=>(match i.zero with|some z=>GG z.cells.toList b&&b.length == i.size|none=>false)
 |none=>false
theorem Xa{P:Program}{t:TypeId}{b:List V}(h:Jy P t b=true):∃i z,P.info? t=some i/\i.zero=some z/\GG z.cells.toList b=true/\b.length=i.size:=by
 unfold Jy at h;split at h
 ·rename_i i hi;split at h
  ·rename_i z g;simp at h;exact⟨i,z,hi,g,h.1,h.2⟩
  cases h
 cases h
def H9(b:Nat->Option (Nat×Nat)):List (Nat×Operand)->List (Nat×Nat×T_)->Bool
 |[],[]=>true|(i,x)::r,(off,size,y)::s=>b i == some (off,size)&&AH x y&&H9 b r s|_,_=>false
theorem nz(off:Nat):∀(g:List Value) (k:Nat) (b:Array Value) (j:Nat),off+k+g.length<=b.size ->
 ((g.zipIdx k).foldl (λcs (p:Value×Nat)=>cs.setIfInBounds (off+p.2) p.1) b).size=b.size /\
 ((g.zipIdx k).foldl (λcs (p:Value×Nat)=>cs.setIfInBounds (off+p.2) p.1) b)[j]?=if off+k<=j/\j<off+k+g.length then g[j-(off+k)]? else b[j]?
 |[],k,b,j,_=>by simp;omega
 | v :: g,k,b,j,h=>by
   have n:=nz off g (k+1) (b.setIfInBounds (off+k) v) j (by simp at h ⊢;omega);simp only[List.zipIdx_cons,List.foldl_cons];refine⟨by rw[n.1];simp,?_⟩;rw[n.2];by_cases q:off+(k+1)<=j/\j<off+(k+1)+g.length
   ·rw[Ad q,Ad (by simp;omega)];have:j-(off+k)=j-(off+(k+1))+1:=(by omega);rw[this];simp
   rw[Ae q];by_cases i:j=off+k
   ·subst i;rw[Ad (by simp),UH,Ad rfl,Ad (by simp at h;omega)];simp
   rw[Ae (by simp only[A0];omega),UH,Ae (Ic i)]
theorem bZ{ι:AL}{σ:Ac}{β:Nat->Nat}{sl:List V}{a:Act}(S:SRel ι σ β sl a.tmps)(g:Nat->Option (Nat×Nat)):∀(u:List (Nat×Operand)) (t:List (Nat×Nat×T_)) (b:Array Value) (cs n:List V),
 H9 g u t=true->o_ ι σ cs b.toList->cs.length=b.size->D4 sl cs t=some n ->
 ∃arr,Instr.fill g b (u.map λp=>(p.1,a.eval p.2))=some arr/\o_ ι σ n arr.toList/\n.length=arr.size/\arr.size=b.size
 | [],[],b,cs,n,_,hr,hl,e=>by
   simp[D4]at e;subst e;exact⟨b,rfl,hr,hl,rfl⟩
 |[],_::_,_,_,_,h,_,_,_=>by simp[H9]at h
 |_::_,[],_,_,_,h,_,_,_=>by simp[H9]at h
 | (i, x)::u,(off,size,y)::t,b,cs,n,h,hr,hl,e=>by
   simp only[H9,Aj,Bb]at h;obtain⟨⟨h1,R⟩,O⟩:=h;simp only[D4]at e;split at e
   ·rename_i M;obtain⟨c1,c2,C⟩:=M;have z:=BI R S;have D:=SZ z C;obtain⟨Y,_⟩:=z.cells C;have L:((a.eval x).cells.zipIdx.foldl (λcs (c,j)=>cs.setIfInBounds (off+j) c) b)=(((a.eval x).cells.toList.zipIdx 0).foldl (λcs (p:Value×Nat)=>cs.setIfInBounds (off+p.2) p.1) b):=by
     rw[<- Array.foldl_toList];simp
    have A:=λj=>nz off (a.eval x).cells.toList 0 b j (by simp;omega);have U:(((a.eval x).cells.toList.zipIdx 0).foldl (λcs (p:Value×Nat)=>cs.setIfInBounds (off+p.2) p.1) b).toList=b.toList.take off++(a.eval x).cells.toList++b.toList.drop (off+(a.eval x).cells.toList.length):=by
     apply JB;intro j;have:=(A j).2;rw[Array.getElem?_toList,this];simp only[Fg];have Z:(a.eval x).cells.toList.length=size:=(by simp;omega);have hC:b.toList.length=b.size:=(by simp);by_cases s:off<=j/\j<off+(a.eval x).cells.toList.length
     ·rw[Ad s,Cj,Dj (by simp;omega),Bp (by simp at s ⊢;omega)];have:min off b.size=off:=(by omega);simp[this]
     rw[Ae s];by_cases N:j<off
     ·rw[Cj,Bp (by simp;omega),JC,Ad N];simp
     rw[Dj (by simp at s ⊢;omega),L4];have e:off+(a.eval x).cells.toList.length+(j-(b.toList.take off++(a.eval x).cells.toList).length)=j:=(by simp at s ⊢;omega);rw[e];simp
    have q:=(A 0).1;obtain⟨arr,J,I,G,F⟩:=bZ S g u t _ _ n O (by rw[U];exact hr.e_ D (by simp;omega) (by omega)) (by rw[Hf,q];exact hl) e;refine⟨arr,?_,I,G,by rw[F,q]⟩;simp only[Cm,Instr.fill,h1];rw[Ae (by simp;omega),L];exact J
   cases e
theorem lK{P:Program}{w:World}:∀(b:List Field),(b.all λf=>(P.info? f.type).isSome)=true ->
 (b.mapM λf=>do pure (f.offset,<- sizeOf f.type):Sem (List (Nat×Nat))).run P w= .ok (b.map λf=>(f.offset,P.cellsOf f.type)) w
 |[],_=>by simp
 | f::b,h=>by
   simp only[F7,Aj]at h;obtain⟨i,hi⟩:=Option.isSome_iff_exists.1 h.1;have g:=lK (P:=P) (w:=w) b h.2;simp only[List.mapM_cons,Ed,F8 hi,Dy,Rc,g];simp[Program.cellsOf,hi]
def Qz(P:Program)(b:Array Field)(i:Nat):Option (Nat×Nat):=(b[i]?).map λf=>(f.offset,P.cellsOf f.type)
theorem pz(z:List V)(n:Nat):(DP z n).length=n*z.length:=by
 induction n with
 |zero=>simp[DP]
 |succ n b=>simp[DP,b,OS];omega
theorem ZiL(z:List V)(n i:Nat)(h:i<n*z.length):(DP z n)[i]?=z[i % z.length]?:=by
 induction n generalizing i with
 |zero=>simp at h
 | succ n ih=>
   simp only[DP];by_cases hi:i<z.length
   ·rw[Bp hi,Nat.mod_eq_of_lt hi]
   rw[Dj (by omega),ih _ (by rw[OS]at h;omega)];congr 1;rw[Nat.mod_eq_sub_mod (a:=i) (by omega)]
section
variable {P:Program} {o:Oper} {a:Act} {ι:AL} {β:Nat->Nat} {st:St} {w0 w:World} {v:V} {bx:List (List V)} {hp:Ac}
 (H:HRel ι st.hp w) (B:BRel ι st.hp β st.bx w0 w) (S:SRel ι st.hp β st.sl a.tmps) {ι0:AL} {σ0:Ac} (T:Step ι0 σ0 w0 ι st.hp w)
include H B S T
theorem Zhq {t:TypeId} {g:Array Field} {b:Array (Nat×Operand)} {n:List V} {q:List (Nat×Nat×T_)} (L:o.op= .build t b) (ht:P.underlying t=some (.struct g)) (A:(g.toList.all λf=>(P.info? f.type).isSome)=true)
 (J:Jy P t n=true) (y:H9 (Qz P g) b.toList q=true) (e:Af (.build n q) st=some (v,bx,hp)):Out P o a ι0 σ0 w0 w st.sl v bx hp:=by
 simp only[Af]at e;split at e
 ·simp only[Ci]at e;obtain⟨s,O,N⟩:=e;cases N;obtain⟨i,z,h1,M,D,R⟩:=Xa J;obtain⟨arr,I,G,F,_⟩:=bZ S (Qz P g) b.toList q z.cells n s y (VX D _ _) (by rw[Tc D];simp) O;refine Out.pure H B S T (x:=.agg arr) ?_ (by have:=G.agg (β:=β) (by simpa using F);simpa using this) rfl;have u:=lK (P:=P) (w:=w) g.toList A;have j:(g.mapM λf=>do pure (f.offset,<- sizeOf f.type):Sem (Array (Nat×Nat))).run P w= .ok (g.map λf=>(f.offset,P.cellsOf f.type)) w:=by
   rw[Array.mapM_eq_mapM_toList];simp only[Sem.run_map,u,Dy];congr 1;apply Array.ext';simp
  have C:Instr.fill (λi=>(g.map λf=>(f.offset,P.cellsOf f.type))[i]?) z.cells (b.map λ(i,x)=>(i,a.eval x)).toList=some arr:=by
   have:(λi=>(g.map λf=>(f.offset,P.cellsOf f.type))[i]?)=Qz P g:=by
    funext i;simp[Qz]
   rw[this];simpa using I
  simp only[execOp,L,Instr.build,Ed,Uk h1 M,Dy,Dh ht,j,C];rfl
 cases e
theorem ZgH{t:TypeId}{b:List V}(s:o.op= .alloc t)(q:Jy P t b=true)(e:Af (.allocH b) st=some (v,bx,hp)):Out P o a ι0 σ0 w0 w st.sl v bx hp:=by
 simp only[Af]at e;split at e
 ·rename_i y;cases e;obtain⟨inf,z,h1,x,u,A⟩:=Xa q;obtain⟨n,j,i,g⟩:=TI H B S z.cells t 1 b (VX u _ _);refine⟨_,.pointer (some ⟨w.heap.size,0,none⟩),_,_,β,by simp[execOp,s,Instr.alloc,Uk h1 x,newVar,newRow],.inl rfl,n,j,i,?_,T.trans g⟩;have:=Rel.ptr (ι:=upd ι st.hp.length ⟨w.heap.size,0,z.cells.size⟩) (σ:=st.hp++[⟨.own,1,b⟩]) (β:=β) st.hp.length 0 ⟨.own,1,b⟩ (by simp) Nat.one_pos;rwa [CR]at this
 cases e
theorem ZiJ{t:TypeId}{n:Nat}{x:Operand}{b:T_}(z:o.op= .box t x)(y:AH x b=true)(e:Af (.boxH n b) st=some (v,bx,hp)):Out P o a ι0 σ0 w0 w st.sl v bx hp:=by
 have g:=BI y S;simp only[Af]at e;split at e
 ·rename_i A;cases e;have i:=SZ g A.2;obtain⟨u,s,q,j⟩:=TI H B S (a.eval x).cells t 1 _ i;refine⟨_,.pointer (some ⟨w.heap.size,0,none⟩),_,_,β,by simp[execOp,z,Instr.box,newVar,newRow],.inl rfl,u,s,q,?_,T.trans j⟩;have:=Rel.ptr (ι:=upd ι st.hp.length ⟨w.heap.size,0,(a.eval x).cells.size⟩) (σ:=st.hp++[⟨.own,1,(b.ev st.sl).cells⟩]) (β:=β) st.hp.length 0 ⟨.own,1,(b.ev st.sl).cells⟩ (by simp) Nat.one_pos;rwa [CR]at this
 cases e
theorem ZeA {t el:TypeId} {b:Nat} {j:List V} {l c:Operand} {l':T_} (ho:o.op= .makeSlice t l c) (hw:JE P t b=true) (ht:P.underlying t=some (.slice el)) (hz:Jy P el j=true) (hl:AH l l'=true) (hc:AH c l'=true)
 (e:Af (.mkSlice b j l') st=some (v,bx,hp)):Out P o a ι0 σ0 w0 w st.sl v bx hp:=by
 have J:=BI hl S;have L:=BI hc S;obtain⟨el',inf,z,g1,Z,Y,g4,U,_⟩:=W4 hw;rw[ht]at g1;cases g1;obtain⟨M,z',h1,R,O,h4⟩:=Xa hz;rw[Z]at h1;cases h1;rw[U]at R;cases R;simp only[Af]at e;split at e
 ·rename_i n F;rw[F]at J L;have I:=E9 J;have G:=E9 L;split at e
  ·rename_i u;obtain⟨c1,c2,c3,c4,c5⟩:=u;unfold AE at c5;have N:n<=1099511627776:=by
    have:n.toNat<=n.toNat*b:=Nat.le_mul_of_pos_right _ c3;omega
   have q:(execOp a.eval o).run P w= .ok (.value (.slice (some ⟨w.heap.size,0,none⟩) n.toNat n.toNat)) (w.alloc (.cells (madeCells z.cells (n.toNat*b)) el)):=by
    have:=run_make (P:=P) w t el inf z ht Z U .i64 .i64 n n c1 (Int.le_refl _) (by
     have h1:(inf.bytes:Int)*n<=128*n:=Int.mul_le_mul_of_nonneg_right (by omega) c1;omega) (by omega)
    simp[execOp,ho,I,G,this,Y]
   have g:j.length=b:=(by rw[h4,Y]);have y:z.cells.size=b:=(by have:=Tc O;simp at this;omega);have A:∀m,o_ ι st.hp (DP j m) (madeCells z.cells (m*b)).toList:=by
    intro m;refine⟨by rw[pz,g];simp[T1],λi v D=>?_⟩;have hi:i<m*b:=(by have:=(List.getElem?_eq_some_iff.1 D).1;rwa [pz,g]at this);rw[ZiL j m i (by rw[g];exact hi),g]at D;obtain⟨x,hx,s⟩:=kT O _ _ D;refine⟨kM s,x,?_,λβ=>bd s ι st.hp β⟩;have h_:i % b<z.cells.size:=(by rw[y];exact Ii _ c3);simp only[madeCells,y];have C:z.cells[i % b]?=some x:=(by simpa using hx);simp only[Array.toList_map,Array.toList_range,Im,List.getElem?_range hi,Cw];rw[getElem!_pos z.cells (i % b) h_];exact congrArg some (Array.getElem?_eq_some_iff.1 C).2
   split at e
   ·rename_i h0;cases e;subst h0;refine⟨_,_,_,ι,β,q,.inl rfl,H.alloc _,B.alloc _,S,?_,T.trans (Step.alloc _ _ _ _)⟩;exact Rel.X_ _
   cases e;obtain⟨q1,q2,q3,q4⟩:=TI H B S (madeCells z.cells (n.toNat*b)) el b (DP j n.toNat) (A _);refine⟨_,_,_,_,β,q,.inl rfl,q1,q2,q3,?_,T.trans q4⟩;have:=Rel.slice (ι:=upd ι st.hp.length ⟨w.heap.size,0,(madeCells z.cells (n.toNat*b)).size⟩) (σ:=st.hp++[⟨.own,b,DP j n.toNat⟩]) (β:=β) st.hp.length 0 n.toNat n.toNat ⟨.own,b,DP j n.toNat⟩ (by simp) (BN _)
    (by rw[CR];simp[T1]) (by first|assumption|(simp only;omega))
   rwa [CR]at this
  cases e
 cases e
theorem qw{i:Nat}{cs:List V}{arr:Array Value}{el:TypeId}(hi:i<st.bx.length)(U:o_ ι st.hp cs arr.toList)(R:cs.length=arr.size):HRel ι st.hp (w.alloc (.cells arr el))/\BRel ι st.hp (upd β i w.heap.size) (C6 st.bx i cs) w0 (w.alloc (.cells arr el))/\SRel ι st.hp (upd β i w.heap.size) (r_ i st.sl) a.tmps/\Step ι st.hp w ι st.hp (w.alloc (.cells arr el)) /\
 Rel ι st.hp (upd β i w.heap.size) (.box i 0) (.pointer (some ⟨w.heap.size,0,none⟩)):=by
 have D:∀(j:Nat) c,(C6 st.bx i cs)[j]?=some c->(j=i/\c=cs)\/(j≠i/\st.bx[j]?=some c):=by
  intro j c h;rw[X3]at h;by_cases s:j=i
  ·rw[Ad ⟨s,hi⟩]at h;cases h;exact .inl ⟨s,rfl⟩
  rw[Ae (λq=>s q.1)]at h;exact .inr ⟨s,h⟩
 refine⟨H.alloc _,⟨λj c s b=>?_,λj c s b=>?_,λj F c c' A s I b y=>?_,λj c l Y_ s b z L=>?_⟩,⟨by simpa using S.1,λn=>?_⟩,Step.alloc _ _ _ _,?_⟩
 ·rcases D j c s with⟨rfl,rfl⟩|⟨g,t⟩
  ·rw[CR];refine⟨arr,el,heap_alloc_new w _,R.symm,λk v G=>?_⟩;obtain⟨O,x,N,M⟩:=U.2 k v G;exact⟨O,x,by simpa using N,M⟩
  rw[DX _ _ _ _ g];obtain⟨arr',Z,h1,Y⟩:=B.cells j c t b;exact⟨arr',Z,by rw[Oh w _ _ (B.new j c t b).2];exact h1,Y⟩
 ·rcases D j c s with⟨rfl,rfl⟩|⟨g,t⟩
  ·rw[CR];exact⟨T.size,by simp⟩
  rw[DX _ _ _ _ g];have:=B.new j c t b;exact⟨this.1,by simp;omega⟩
 ·rcases D j c s with⟨rfl,rfl⟩|⟨g,t⟩<;>rcases D F c' I with⟨rfl,rfl⟩|⟨u,C⟩
  ·exact absurd rfl A
  ·rw[CR,DX _ _ _ _ u];have:=(B.new F c' C y).2;omega
  ·rw[CR,DX _ _ _ _ g];have:=(B.new j c t b).2;omega
  rw[DX _ _ _ _ g,DX _ _ _ _ u];exact B.apart j F c c' A t C b y
 ·rcases D j c s with⟨rfl,rfl⟩|⟨g,t⟩
  ·rw[CR];have:=H.there l Y_ z L;omega
  rw[DX _ _ _ _ g];exact B.heap j c l Y_ t b z L
 ·rw[kO];split
  ·exact .undef _
  rename_i J;refine(S.2 n).mono (.refl _ _) λj q G=>?_;rw[G]at J;simp[V.isBox]at J;exact DX _ _ _ _ (Ic J)
 have:=Rel.box (ι:=ι) (σ:=st.hp) (β:=upd β i w.heap.size) i 0;rwa [CR]at this
theorem ZgF{t:TypeId}{i:Nat}{b:List V}(y:o.op= .alloc t)(x:Jy P t b=true)(e:Af (.d7 i b) st=some (v,bx,hp)):Out P o a ι0 σ0 w0 w (r_ i st.sl) v bx hp:=by
 simp only[Af]at e;split at e
 ·rename_i A;cases e;obtain⟨inf,z,h1,C,g,D⟩:=Xa x;obtain⟨u,s,q,n,j⟩:=qw H B S T (arr:=z.cells) (el:=t) A.1 (VX g _ _) (by rw[Tc g];simp);exact⟨_,_,_,ι,_,by simp[execOp,y,Instr.alloc,Uk h1 C,newVar,newRow],.inl rfl,u,s,q,j,T.trans n⟩
 cases e
theorem Zjf{t:TypeId}{i n:Nat}{x:Operand}{b:T_}(F:o.op= .box t x)(D:AH x b=true)(e:Af (.boxB i n b) st=some (v,bx,hp)):Out P o a ι0 σ0 w0 w (r_ i st.sl) v bx hp:=by
 have g:=BI D S;simp only[Af]at e;split at e
 ·rename_i G;obtain⟨I,c2,j⟩:=G;cases e;have s:=SZ g j;obtain⟨q,_⟩:=g.cells j;obtain⟨C,A,z,y,u⟩:=qw H B S T (arr:=(a.eval x).cells) (el:=t) I s q.symm;exact⟨_,_,_,ι,_,by simp[execOp,F,Instr.box,newVar,newRow],.inl rfl,C,A,z,u,T.trans y⟩
 cases e
end
theorem Xj{w:World}{b:Nat}{arr arr':Array Value}{e:TypeId}(g:w.heap[b]?=some (.cells arr e (0,0))):(w.setRow b arr').heap[b]?=some (.cells arr' e (0,0)):=by
 simp[World.setRow,Array.getElem?_modify,g]
theorem J2{w:World}{b k:Nat}{arr':Array Value}(h:k≠b):(w.setRow b arr').heap[k]?=w.heap[k]?:=by
 simp only[World.setRow,Array.getElem?_modify];rw[Ae (Ic h)]
theorem MM(w:World)(b:Nat)(arr':Array Value):(w.setRow b arr').heap.size=w.heap.size:=by simp[World.setRow]
theorem HRel.setRow{ι:AL}{σ:Ac}{w:World}(h:HRel ι σ w){b:Nat}{arr':Array Value}(g:∀(l:Nat)(Y_:Blk),σ[l]?=some Y_->Y_.k≠.dead->(ι l).b≠b):HRel ι σ (w.setRow b arr') where
 cells l Y_ hl hk i v hv:=by
  obtain⟨q,x,y,z⟩:=h.cells l Y_ hl hk i v hv;exact⟨q,x,by rw[Yf (w:=w) (J2 (g l Y_ hl hk))];exact y,z⟩
 own l Y_ hl hk:=by
  obtain⟨p,q,arr,e,r,s⟩:=h.own l Y_ hl hk;exact⟨p,q,arr,e,by rw[J2 (g l Y_ hl (by rw[hk];decide))];exact r,s⟩
 apart:=h.apart
 there l Y_ hl hk:=by rw[MM];exact h.there l Y_ hl hk
theorem HRel.ownCells{ι:AL}{σ:Ac}{w:World}(h:HRel ι σ w){l:Nat}{Y_:Blk}(g:σ[l]?=some Y_)(j:Y_.k= .own):(ι l).o=0/\∃arr e,w.heap[(ι l).b]?=some (.cells arr e (0,0))/\arr.size=(ι l).c/\o_ ι σ Y_.cs arr.toList:=by
 obtain⟨h1,u,arr,e,n,t⟩:=h.own l Y_ g j;refine⟨h1,arr,e,n,t,by simp;omega,λi v s=>?_⟩;obtain⟨q,x,y,z⟩:=h.cells l Y_ g (by rw[j];decide) i v s;refine⟨q,x,?_,z⟩;rw[h1,BJ]at y;simp only[World.cell?,n]at y;simpa using y
theorem kF {P:Program} {w:World} {t:TypeId} {n:Nat} {inf:TypeInfo} (hi:P.info? t=some inf) (hs:inf.size=n) {b off:Nat} {arr:Array Value} {el:TypeId} (s:w.heap[b]?=some (.cells arr el (0,0))) {x:Value} (i:x.cells.size=n) (j:off+n<=arr.size)
 (h1:∀u∈x.cells.toList,u.oneCell'=true):
 (Instr.storeAt t (.pointer (some ⟨b,off,none⟩)) x).run P w= .ok () (w.setRow b (arr.toList.take off++x.cells.toList++arr.toList.drop (off+n)).toArray):=by
 have g:=run_storeCells_at P b off el x.cells.toList 0 arr w s (by simp;omega) h1;have q:x.cells.toList.length=n:=by simpa using i
 simp only[Fg,q]at g;simp[Instr.storeAt,Instr.sureAddr,storeVar,F8 hi,hs,i,g]
section
variable {P:Program} {o:Oper} {a:Act} {ι:AL} {β:Nat->Nat} {st:St} {w0 w:World} {v:V} {bx:List (List V)} {hp:Ac}
 (H:HRel ι st.hp w) (B:BRel ι st.hp β st.bx w0 w) (S:SRel ι st.hp β st.sl a.tmps) {ι0:AL} {σ0:Ac} (T:Step ι0 σ0 w0 ι st.hp w)
include H B S T
theorem Zd1 {t el:TypeId} {g n:Nat} {b:Array (Nat×Operand)} {F:List V} {G:List (Nat×Nat×T_)} {z:Value} {inf:TypeInfo} (M:o.op= .buildSlice t n b) (ht:P.underlying t=some (.slice el)) (hi:P.info? el=some inf)
 (hz:inf.zero=some z) (hs:inf.size=g) (N:n*g<=2^24) (C:GG (madeCells z.cells (n*g)).toList F=true) (u:H9 (λi=>some (i*g,g)) b.toList G=true)
 (h0:n=0->G=[]) (e:Af (.d4 g n F G) st=some (v,bx,hp)):Out P o a ι0 σ0 w0 w st.sl v bx hp:=by
 have I:F.length=n*g:=by rw[Tc C];simp[T1]
 have A:∀(arr:Array Value),Instr.fill (λi=>some (i*g,g)) (madeCells z.cells (n*g)) (b.toList.map λp=>(p.1,a.eval p.2))=some arr ->
  (execOp a.eval o).run P w= .ok (.value (.slice (some ⟨w.heap.size,0,none⟩) n n)) (w.alloc (.cells arr el)):=by
  intro arr j;have D:¬(n*g > 2^24):=(by omega);have s:(b.map λ(i,x)=>(i,a.eval x)).toList=b.toList.map λp=>(p.1,a.eval p.2):=(by simp);by_cases y:n*g=0
  ·have hm:madeCells z.cells (n*g)=#[]:=(by rw[y];simp[madeCells]);rw[hm]at j;simp only[execOp,M,Instr.buildSlice,Ed,Dh ht,Dy,F8 hi,hs,Ae D,s];simp only[y,AX,Rc,Array.range_zero',Array.map_empty,j];simp[newRow]
  have hm:(Array.range (n*g)).map (λi=>z.cells[i % z.cells.size]!)=madeCells z.cells (n*g):=rfl;simp only[execOp,M,Instr.buildSlice,Ed,Dh ht,Dy,F8 hi,hs,Ae D,s,Ae y,Uk hi hz,Rc,hm,j];simp[newRow]
 simp only[Af]at e;split at e
 ·rename_i D;cases e;have:=h0 D;subst this;have L:b.toList=[]:=by
   cases hq:b.toList with
   |nil=>rfl
   |cons x r=>rw[hq]at u;simp[H9]at u
  have J:=A (madeCells z.cells (n*g)) (by rw[L];rfl);subst D;refine⟨_,_,_,ι,β,J,.inl rfl,H.alloc _,B.alloc _,S,.X_ _,T.trans (Step.alloc _ _ _ _)⟩
 split at e
 ·simp only[Ci]at e;obtain⟨q,e1,e2⟩:=e;cases e2;obtain⟨arr,Z,Y,q3,U⟩:=bZ S (λi=>some (i*g,g)) b.toList G (madeCells z.cells (n*g)) F q u (VX C _ _) (by rw[I];simp[T1]) e1;have J:=A arr Z;obtain⟨r1,r2,R,O⟩:=TI H B S arr el g q Y;refine⟨_,_,_,_,β,J,.inl rfl,r1,r2,R,?_,T.trans O⟩;have:=Rel.slice (ι:=upd ι st.hp.length ⟨w.heap.size,0,arr.size⟩) (σ:=st.hp++[⟨.own,g,q⟩]) (β:=β) st.hp.length 0 n n ⟨.own,g,q⟩ (by simp) (BN _)
   (by rw[CR];simp[U,T1]) (by first|assumption|(simp only;omega))
  rwa [CR]at this
 cases e
theorem ZgS {t:TypeId} {i n:Nat} {inf:TypeInfo} {x y:Operand} {x' R:T_} (ho:o.op= .store t x y) (hi:P.info? t=some inf) (hs:inf.size=n) (hx:AH x x'=true) (hy:AH y R=true)
 (e:Af (.U_ i n x' R) st=some (v,bx,hp)):Out P o a ι0 σ0 w0 w st.sl v bx hp:=by
 have rx:=BI hx S;have ry:=BI hy S;simp only[Af]at e;split at e
 ·rename_i j q hxe;rw[hxe]at rx;have ex:=TP rx;split at e
  ·rename_i hc;obtain⟨rfl,c1,c2,c3,c4⟩:=hc;cases e;have rc:=SZ ry c4;obtain⟨s1,s2⟩:=ry.cells c4;have hone:∀u∈(a.eval y).cells.toList,u.oneCell'=true:=by
    intro u Z;obtain⟨k,U⟩:=Kg Z;have h_:k<(R.ev st.sl).cells.length:=by
     have:=(List.getElem?_eq_some_iff.1 U).1;simp at this;omega
    obtain⟨g1,z,Y,g3⟩:=rc.2 k _ (Bc h_);rw[U]at Y;cases Y;exact(g3 β).oneCell g1
   have C:st.bx[i]?=some (A3 st.bx i):=by
    rw[TX,Bc c1];rfl
   by_cases O:A3 st.bx i=[]
   ·
    have hn0:n=0:=(by rw[O]at c3;simp at c3;omega);subst hn0;have hnil:(R.ev st.sl).cells=[]:=List.length_eq_zero_iff.1 c2;have hcz:(a.eval y).cells=#[]:=by
     apply Array.eq_empty_of_size_eq_zero;rw[s1,c2]
    have hsp:e_ (A3 st.bx i) q (R.ev st.sl).cells=A3 st.bx i:=(by rw[hnil,O];cases q<;>rfl);have hpb:C6 st.bx i (A3 st.bx i)=st.bx:=by
     apply JB;intro m;rw[X3];split
     ·rename_i h;rw[h.1,C]
     rfl
    rw[hsp,hpb];refine⟨.skip,Go.undef,w,ι,β,?_,.inr ⟨rfl,rfl⟩,H,B,S,.undef _,T⟩;simp[execOp,ho,ex,Instr.storeAt,Instr.sureAddr,storeVar,F8 hi,hs,hcz,storeCells]
   obtain⟨arr,el,N,hsz,J⟩:=B.cells i _ C O;have hrun:=kF (P:=P) hi hs N (x:=a.eval y) (off:=q) (by rw[s1,c2]) (by omega) hone;have hbn:=B.new i _ C O;have D:∀(l:Nat) (Y_:Blk),st.hp[l]?=some Y_->Y_.k≠.dead->(ι l).b≠β i:=λl Y_ hl U=>B.heap i _ l Y_ C O hl U;refine⟨.skip,Go.undef,_,ι,β,by simp only[execOp,ho,ex,Ed,hrun,Dy];rfl,.inr ⟨rfl,rfl⟩,H.setRow D,?_,S,.undef _,?_⟩
   ·have A:∀(m:Nat) c,(C6 st.bx i (e_ (A3 st.bx i) q (R.ev st.sl).cells))[m]?=some c->(m=i/\c=e_ (A3 st.bx i) q (R.ev st.sl).cells)\/(m≠i/\st.bx[m]?=some c):=by
     intro m c h;rw[X3]at h;by_cases hm:m=i
     ·rw[Ad ⟨hm,c1⟩]at h;cases h;exact .inl ⟨hm,rfl⟩
     rw[Ae (λg=>hm g.1)]at h;exact .inr ⟨hm,h⟩
    have hrc:o_ ι st.hp (A3 st.bx i) arr.toList:=⟨by simp[hsz],λk u Z=>by
     obtain⟨g1,z,Y,g3⟩:=J k u Z;exact⟨g1,z,by simpa using Y,g3⟩⟩
    have L:=hrc.e_ rc (o:=q) (by simp[s1]) (by omega);have hL:(a.eval y).cells.toList.length=n:=(by simp;omega);rw[hL]at L;refine⟨λm c hm s=>?_,λm c hm s=>?_,λm m' c c' F hm hm' s M=>?_,λm c l Y_ hm s hl U=>?_⟩
    ·rcases A m c hm with⟨rfl,rfl⟩|⟨G,I⟩
     ·refine⟨_,el,Xj N,by simp[Hf];omega,λk u Z=>?_⟩;obtain⟨g1,z,Y,g3⟩:=L.2 k u Z;exact⟨g1,z,by simpa using Y,g3⟩
     obtain⟨arr',e',h1,h2⟩:=B.cells m c I s;exact⟨arr',e',by rw[J2 (B.apart m i c _ G I C s O)];exact h1,h2⟩
    ·rw[MM];rcases A m c hm with⟨rfl,rfl⟩|⟨G,I⟩
     ·exact hbn
     exact B.new m c I s
    ·rcases A m c hm with⟨rfl,rfl⟩|⟨G,I⟩<;>rcases A m' c' hm' with⟨rfl,rfl⟩|⟨hmi',hg'⟩
     ·exact absurd rfl F
     ·exact B.apart _ _ _ _ F C hg' O M
     ·exact B.apart _ _ _ _ F I C s O
     exact B.apart m m' c c' F I hg' s M
    rcases A m c hm with⟨rfl,rfl⟩|⟨G,I⟩
    ·exact D l Y_ hl U
    exact B.heap m c l Y_ I s hl U
   ·
    exact { T with
     frame:=λb hb hf=>by rw[J2 (by omega)];exact T.frame b hb hf
     size:=by rw[MM];exact T.size }
  cases e
 cases e
theorem Zga {t:TypeId} {n:Nat} {inf:TypeInfo} {x y:Operand} {x' Z:T_} (ho:o.op= .store t x y) (hi:P.info? t=some inf) (hs:inf.size=n) (hx:AH x x'=true) (hy:AH y Z=true)
 (e:Af (.f6 n x' Z) st=some (v,bx,hp)):Out P o a ι0 σ0 w0 w st.sl v bx hp:=by
 have rx:=BI hx S;have ry:=BI hy S;simp only[Af]at e;split at e
 ·rename_i l q hxe;rw[hxe]at rx;obtain⟨_,ex⟩:=Ju rx;split at e
  ·rename_i hc;obtain⟨c1,c2⟩:=hc;simp only[Ci]at e;obtain⟨h',e1,e2⟩:=e;cases e2;unfold wr at e1;split at e1
   ·rename_i Y_ G;split at e1
    ·rename_i hk;obtain⟨k1,k2⟩:=hk;cases e1;have rc:=SZ ry c2;obtain⟨s1,s2⟩:=ry.cells c2;have hone:∀u∈(a.eval y).cells.toList,u.oneCell'=true:=by
      intro u hu;obtain⟨k,hk⟩:=Kg hu;have h_:k<(Z.ev st.sl).cells.length:=by
       have:=(List.getElem?_eq_some_iff.1 hk).1;simp at this;omega
      obtain⟨J,z,R,Y⟩:=rc.2 k _ (Bc h_);rw[hk]at R;cases R;exact(Y β).oneCell J
     obtain⟨z0,arr,el,I,hsz,hrc⟩:=H.ownCells G k1;have hle:=hrc.1;simp at hle;rw[z0,BJ]at ex;have hrun:=kF (P:=P) hi hs I (x:=a.eval y) (off:=q) (by rw[s1,c1]) (by omega) hone;have hL:(a.eval y).cells.toList.length=n:=(by simp;omega);have N:=hrc.e_ rc (o:=q) (by simp[s1]) (by omega);rw[hL]at N;have K:=Xy ι st.hp l Y_ { Y_ with cs:=e_ Y_.cs q (Z.ev st.sl).cells } G rfl;have C:∀(j:Nat) (b:Blk),(st.hp.set l { Y_ with cs:=e_ Y_.cs q (Z.ev st.sl).cells })[j]?=some b->(j=l/\b={ Y_ with cs:=e_ Y_.cs q (Z.ev st.sl).cells })\/(j≠l/\st.hp[j]?=some b):=by
      intro j b A;rcases Ie A with⟨h1,h2,_⟩|h
      ·exact .inl ⟨h1,h2⟩
      exact .inr h
     have M:∀(j:Nat) (b:Blk),j≠l->st.hp[j]?=some b->b.k≠.dead->(ι j).b≠(ι l).b:=λj b D A s=>λg=>H.apart l j Y_ b (Ic D) G A k1 s g.symm;have U:((arr.toList.take q++(a.eval y).cells.toList++arr.toList.drop (q+n)).toArray).size=arr.size:=(by simp;omega);refine⟨.skip,Go.undef,w.setRow (ι l).b (arr.toList.take q++(a.eval y).cells.toList++arr.toList.drop (q+n)).toArray,ι,β,by simp only[execOp,ho,ex,Ed,hrun,Dy];rfl,.inr ⟨rfl,rfl⟩,⟨λj b A s i u hu=>?_,λj b A s=>?_,λj j' b b' L A F s O=>?_,λj b A s=>?_⟩,?_,S.mono K,.undef _,?_⟩
     ·rcases C j b A with⟨rfl,rfl⟩|⟨D,A⟩
      ·obtain⟨J,z,R,Y⟩:=N.2 i u hu;refine⟨J,z,?_,λβ=>(Y β).cellMono K J⟩;rw[z0,BJ];simp only[World.cell?,Xj I];simpa using R
      obtain⟨J,z,R,Y⟩:=H.cells j b A s i u hu;exact⟨J,z,by rw[Yf (w:=w) (J2 (M j b D A s))];exact R,λβ=>(Y β).cellMono K J⟩
     ·rcases C j b A with⟨rfl,rfl⟩|⟨D,A⟩
      ·exact⟨z0,by simp[Hf];omega,_,el,Xj I,by rw[U,hsz]⟩
      obtain⟨J,R,arr',e',Y,g4⟩:=H.own j b A s;exact⟨J,R,arr',e',by rw[J2 (M j b D A (by rw[s];decide))];exact Y,g4⟩
     ·rcases C j b A with⟨rfl,rfl⟩|⟨D,hg⟩<;>rcases C j' b' F with⟨rfl,rfl⟩|⟨hjl',hg'⟩
      ·exact absurd rfl L
      ·exact H.apart _ _ _ _ L G hg' k1 O
      ·exact H.apart _ _ _ _ L hg G s (by rw[k1];decide)
      exact H.apart j j' b b' L hg hg' s O
     ·rw[MM];rcases C j b A with⟨rfl,rfl⟩|⟨D,A⟩
      ·exact H.there _ _ G s
      exact H.there j b A s
     ·refine B.mono K (λi cs hi L=>J2 (λg=>B.heap i cs l Y_ hi L G (by rw[k1];decide) g.symm)) (by rw[MM];exact BN _) λi cs j b hi L A s=>?_;rcases C j b A with⟨rfl,rfl⟩|⟨D,A⟩
      ·exact B.heap i cs _ Y_ hi L G s
      exact B.heap i cs j b hi L A s
     refine T.trans { keeps:=K,kinds:=λj b b' A F=>?_,fresh:=λj b' hle' A s=>?_,frame:=λb hb' hf=>J2 (λg=>hf l Y_ G k1 g.symm),size:=by rw[MM];exact BN _,os:=rfl,output:=rfl,tape:=rfl }
     ·rcases C j b' F with⟨rfl,rfl⟩|⟨D,F⟩
      ·rw[G]at A;cases A;exact .inl rfl
      rw[A]at F;cases F;exact .inl rfl
     rcases C j b' A with⟨rfl,rfl⟩|⟨D,A⟩
     ·have:=BB G;omega
     have:=BB A;omega
    cases e1
   cases e1
  cases e
 cases e
end
structure Src (P:Program) (w:World) (size:Nat) (x:Value) (n:Nat) (new:List Value):Prop where
 len:∀w',(Builtin.lenOf x).run P w'= .ok n w'
 cells:(Builtin.firstCells size n x).run P w= .ok new.toArray w
 cells':(Builtin.firstCells size n x).run P w.drew= .ok new.toArray w.drew
 size:new.length=n*size
section
variable {P:Program} {w:World} {t0 t1 ty el:TypeId} {inf:TypeInfo} {d1:TypeDesc}
 (ht:P.underlying t0=some (.slice el)) (hi:P.info? el=some inf) (ht1:P.underlying t1=some d1) (hd1:(∃e,d1= .slice e)\/d1= .string)
include ht hi ht1 hd1
theorem aW{base:Option Addr}{sLen sCap:Nat}{x:Value}(hs:Src P w inf.size x 0 [])(b:sLen<=sCap):(Builtin.append_ #[t0,t1] ty #[.slice base sLen sCap,x]).run P w= .ok (.slice base sLen sCap) w:=by
 have g:∀a:Addr,(storeCells a ([]:List Value)).run P w= .ok () w:=λa=>by simp[storeCells]
 rcases hd1 with⟨i,rfl⟩|rfl<;>cases base<;>simp[Builtin.append_,Dh ht,Dh ht1,F8 hi,hs.len,hs.cells,b,storeCells]
theorem Zde {b off sLen sCap n:Nat} {x:Value} {g:List Value} {arr:Array Value} {e:TypeId} (hs:Src P w inf.size x n g) (s:w.heap[b]?=some (.cells arr e (0,0))) (i:sLen+n<=sCap)
 (q:off+sLen*inf.size+g.length<=arr.size) (h1:∀u∈g,u.oneCell'=true):
 (Builtin.append_ #[t0,t1] ty #[.slice (some ⟨b,off,none⟩) sLen sCap,x]).run P w=
  .ok (.slice (some ⟨b,off,none⟩) (sLen+n) sCap) (w.setRow b (arr.toList.take (off+sLen*inf.size)++g++arr.toList.drop (off+sLen*inf.size+g.length)).toArray):=by
 have j:=run_storeCells_at P b (off+sLen*inf.size) e g 0 arr w s (by simpa using q) h1;simp only[Fg]at j;rcases hd1 with⟨t,rfl⟩|rfl<;>simp[Builtin.append_,Dh ht,Dh ht1,F8 hi,hs.len,hs.cells,i,M6,j]
theorem Zc0 {z:Value} (t:inf.zero=some z) {base:Option Addr} {sLen sCap n:Nat} {x:Value} {b g:List Value} (hs:Src P w inf.size x n g) (i:(Builtin.firstCells inf.size sLen (.slice base sLen sCap)).run P w.drew= .ok b.toArray w.drew)
 (A:sCap<sLen+n) (u:sLen+n<=2^40) (s:inf.bytes<=128):
 (Builtin.append_ #[t0,t1] ty #[.slice base sLen sCap,x]).run P w=
  .ok (.slice (some ⟨w.heap.size,0,none⟩) (sLen+n) (grownCap w (sLen+n) sCap el)) (w.drew.alloc (.cells (b.toArray++g.toArray++Builtin.zeroCells z.cells (grownCap w (sLen+n) sCap el-(sLen+n))) el)):=by
 have y:¬(sLen+n<=sCap):=by omega
 have j:¬(9223372036854775807<((sLen:Int)+(n:Int))):=by omega
 have q:¬(281474976710656<Builtin.nextslicecap (sLen+n) sCap*inf.bytes):=by
  have h1:=nextslicecap_le A;have C:Builtin.nextslicecap (sLen+n) sCap*inf.bytes<=(2*(sLen+n))*128:=Nat.mul_le_mul h1 s;omega
 rcases hd1 with⟨D,rfl⟩|rfl
 all_goals
  simp[Builtin.append_,Dh ht,Dh ht1,F8 hi,Uk hi t,eQ hi,hs.len,hs.cells',i,y,j,q,Question.forced,newRow,grownCap];congr 2;apply Array.ext';simp[Cj]
end
theorem ZhG{P:Program}{ι:AL}{β:Nat->Nat}{st:St}{w:World}(H:HRel ι st.hp w){A k:Nat}{y:V}{D:Value}{g:List V}(F:Rel ι st.hp β y D)(e:DZ st.hp A y=some (g,k)):∃M:List Value,Src P w A D k M/\o_ ι st.hp g M/\g.length=k*A:=by
 have sl:∀(a:Addr) (n c:Nat) (cs:List V) (ws:List Value),D= .slice (some a) n c->ws.length=n*A->cs.length=n*A->(∀u,u∈cs->u.cell=true)->(∀(j:Nat) y,ws[j]?=some y->w.cell? (a.add j)=some y) ->
  (∀(j:Nat) u y,cs[j]?=some u->ws[j]?=some y->∀β',Rel ι st.hp β' u y)->Src P w A D n ws/\o_ ι st.hp cs ws:=by
  intro a n c cs ws ey h1 h2 h3 Y h5;have O:=Tb (P:=P) Y;have N:=Tb (P:=P) (w:=w.drew) (ad:=a) (cs:=ws) (λj v t=>Y j v t);rw[h1]at O N;subst ey;refine⟨⟨λw'=>rfl,O,N,h1⟩,by omega,λi v t=>?_⟩;have U:i<ws.length:=(by have:=(List.getElem?_eq_some_iff.1 t).1;omega);exact⟨h3 v (Il t),ws[i],Bc U,h5 i v _ t (Bc U)⟩
 unfold DZ at e;split at e
 ·cases e;obtain⟨b,rfl⟩:=QM F;refine⟨[],⟨λw'=>rfl,?_,?_,by simp⟩,⟨BN _,by simp⟩,by simp⟩
  ·cases b<;>simp[Builtin.firstCells,loadCells,loadCellsFrom]
  cases b<;>simp[Builtin.firstCells,loadCells,loadCellsFrom]
 ·rename_i l q n;simp only[Ch]at e;obtain⟨cs,e1,e2⟩:=e;cases e2;obtain⟨ws,L,G,q3,q4,Z⟩:=XU H e1;obtain⟨Y_,R,z⟩:=Gx F;rcases z with⟨c,C,_⟩|⟨rfl,b,C⟩
  ·obtain⟨r1,r2⟩:=sl _ k c _ ws C L G q3 q4 Z;exact⟨ws,r1,r2,G⟩
  have hws:ws=[]:=List.length_eq_zero_iff.1 (by rw[L];simp);have J:g=[]:=List.length_eq_zero_iff.1 (by rw[G];simp);subst C;subst J;refine⟨[],⟨λw'=>rfl,?_,?_,by simp⟩,⟨BN _,by simp⟩,by simp⟩
  ·cases b<;>simp[Builtin.firstCells,loadCells,loadCellsFrom]
  cases b<;>simp[Builtin.firstCells,loadCells,loadCellsFrom]
 ·rename_i s;split at e
  ·rename_i I;cases e;subst I;have C:=Q7 F;subst C;have hz:(ByteArray.mk s.toArray).size=s.length:=YS;have x:(ByteArray.mk s.toArray).extract 0 s.length=⟨s.toArray⟩:=by
    apply ByteArray.ext;simp
   refine⟨s.map λb=>.int .u8 b.toNat,⟨λw'=>by simp[Builtin.lenOf,hz],?_,?_,by simp⟩,⟨by simp,λi v t=>?_⟩,by simp⟩
   ·simp[Builtin.firstCells,x]
   ·simp[Builtin.firstCells,x]
   simp only[Im,Ch]at t;obtain⟨b,R,rfl⟩:=t;exact⟨rfl,.int .u8 b.toNat,by simp[R],λβ=>.int _ _⟩
  cases e
 cases e
section
variable {P:Program} {o:Oper} {a:Act} {ι:AL} {β:Nat->Nat} {st:St} {w0 w:World} {v:V} {bx:List (List V)} {hp:Ac}
 (H:HRel ι st.hp w) (B:BRel ι st.hp β st.bx w0 w) (S:SRel ι st.hp β st.sl a.tmps) {ι0:AL} {σ0:Ac} (T:Step ι0 σ0 w0 ι st.hp w)
include H B S T
theorem YO {c : Call} {t0 t1:TypeId} {R:Nat} {x y:Operand} {x' y':T_} {d1:TypeDesc} (ho:o.op= .call c) (hc:c.callee= .builtin .append) (hargs:c.args=#[x,y]) (hts:c.argTypes=#[t0,t1]) (hw:JE P t0 R=true)
 (ht1:P.underlying t1=some d1) (hd1:(∃e,d1= .slice e)\/d1= .string) (hx:AH x x'=true) (hy:AH y y'=true) (e:Af (.app R x' y') st=some (v,bx,hp)):Out P o a ι0 σ0 w0 w st.sl v bx hp:=by
 have rx:=BI hx S;have ry:=BI hy S;obtain⟨el,inf,z,g1,g2,g3,g4,g5,g6⟩:=W4 hw;have U:∀ {r:Value} {w':World},(Builtin.append_ #[t0,t1] o.type #[a.eval x,a.eval y]).run P w= .ok r w'->(execOp a.eval o).run P w= .ok (.value r) w':=by
  intro r w' h;rw[Ta ho hc];simp[builtin,hargs,hts,h]
 simp only[Af]at e;split at e
 ·rename_i hw0;simp only[Ci]at e;obtain⟨⟨u,h'⟩,L,e2⟩:=e;cases e2;unfold app at L;split at L
  ·cases L
  rename_i C k hsrc;obtain⟨J,hS,hR,hlen⟩:=ZhG (P:=P) H ry hsrc;have hS':Src P w inf.size (a.eval y) k J:=(by rw[g3];exact hS);have hns:J.length=k*R:=hS.size;have grow:∀(base:Option Addr) (sLen sCap:Nat) (σ':Ac) (G:List V) (AN:List Value),a.eval x= .slice base sLen sCap->sCap<sLen+k->(sLen+k)*R<=2^40->G.length=sLen*R->AN.length=sLen*R ->
   (Builtin.firstCells inf.size sLen (.slice base sLen sCap)).run P w.drew= .ok AN.toArray w.drew->HRel ι σ' w->BRel ι σ' β st.bx w0 w->SRel ι σ' β st.sl a.tmps->Step ι0 σ0 w0 ι σ' w->o_ ι σ' G AN->o_ ι σ' C J ->
   Out P o a ι0 σ0 w0 w st.sl (.slice σ'.length 0 (sLen+k)) st.bx (σ'++[⟨.own,R,G++C⟩]):=by
   intro base sLen sCap σ' G AN M hg hsm ho1 ho2 hold H' B' S' T' hro hrn;have hle:sLen+k<=2^40:=CW (Nat.le_mul_of_pos_right _ hw0) hsm;have s:=Zc0 (ty:=o.type) g1 g2 ht1 hd1 g5 hS' hold hg hle g4;rw[<- M]at s;have hcapge:=grownCap_ge w (sLen+k) sCap el;have hsz:(AN.toArray++J.toArray++Builtin.zeroCells z.cells (grownCap w (sLen+k) sCap el-(sLen+k))).size=grownCap w (sLen+k) sCap el*R:=by
    simp only[Array.size_append,size_zeroCells,g6,YS,ho2,hns];rw[<- D2,<- D2];congr 1;omega
   have hrc:o_ ι σ' (G++C) (AN.toArray++J.toArray++Builtin.zeroCells z.cells (grownCap w (sLen+k) sCap el-(sLen+k))).toList:=by
    refine⟨?_,λi u D=>?_⟩
    ·simp[ho1,ho2,hlen,hns]
    by_cases hi:i<G.length
    ·rw[Bp hi]at D;obtain⟨O,x1,N,Y⟩:=hro.2 i u D;refine⟨O,x1,?_,Y⟩;simp only[Array.toList_append,Cj];rw[Bp (by omega)];exact N
    rw[Dj (by omega)]at D;have hi2:=(List.getElem?_eq_some_iff.1 D).1;obtain⟨O,x1,N,Y⟩:=hrn.2 _ u D;refine⟨O,x1,?_,Y⟩;simp only[Array.toList_append,Cj];rw[Dj (by omega),Bp (by omega)];have:i-AN.length=i-G.length:=(by omega);rw[this];exact N
   obtain⟨r1,r2,r3,r4⟩:=TI H'.drew B'.drew S' (AN.toArray++J.toArray++Builtin.zeroCells z.cells (grownCap w (sLen+k) sCap el-(sLen+k))) el R (G++C) hrc;refine⟨_,_,_,_,β,U s,.inl rfl,r1,r2,r3,?_,(T'.trans (Step.drew _ _ _)).trans r4⟩;have:=Rel.slice (ι:=upd ι σ'.length ⟨w.drew.heap.size,0,(AN.toArray++J.toArray++Builtin.zeroCells z.cells (grownCap w (sLen+k) sCap el-(sLen+k))).size⟩) (σ:=σ'++[⟨.own,R,G++C⟩]) (β:=β)
    σ'.length 0 (sLen+k) (grownCap w (sLen+k) sCap el) ⟨.own,R,G++C⟩ (by simp) hcapge (by rw[CR,hsz];simp) (by first|assumption|(simp only;omega))
   rwa [CR]at this
  have Z:k=0->J=[]:=λh=>List.length_eq_zero_iff.1 (by rw[hns,h];simp);split at L
  ·
   rename_i hxe;rw[hxe]at rx;obtain⟨b,M⟩:=QM rx;split at L
   ·rename_i hk;cases L;subst hk;have hnn:=Z rfl;subst hnn;have s:=aW (ty:=o.type) g1 g2 ht1 hd1 (base:=b) (sLen:=0) (sCap:=0) hS' (BN _);rw[<- M]at s;exact Out.pure H B S T (U s) rx rfl
   split at L
   ·rename_i hk t;cases L;unfold AE at t;have:=grow b 0 0 st.hp [] [] M (by omega) (by simpa using t) (by simp) (by simp) (by cases b<;>simp[Builtin.firstCells,loadCells,loadCellsFrom]) H B S T ⟨BN _,by simp⟩ hR;simpa using this
   cases L
  ·rename_i l q n hxe;rw[hxe]at rx;obtain⟨Y_,hb,hcase⟩:=Gx rx;split at L
   ·
    rename_i hk;cases L;subst hk;have hnn:=Z rfl;subst hnn;rcases hcase with⟨cc,M,hn,_⟩|⟨rfl,b,M⟩
    ·have s:=aW (ty:=o.type) g1 g2 ht1 hd1 (base:=some ⟨(ι l).b,(ι l).o+q,none⟩) hS' hn;rw[<- M]at s;exact Out.pure H B S T (U s) rx rfl
    have s:=aW (ty:=o.type) g1 g2 ht1 hd1 (base:=b) (sLen:=0) (sCap:=0) hS' (BN _);rw[<- M]at s;exact Out.pure H B S T (U s) rx rfl
   rename_i hk;rw[hb]at L;simp only at L;split at L
   ·rename_i hcond;obtain⟨k1,k2,k3,k4,k5⟩:=hcond;cases L;unfold AE at k5;subst k3;subst k2;obtain⟨z0,arr,e0,harr,hsz,hrc⟩:=H.ownCells hb k1;have hrle:=hrc.1;simp only[Array.length_toList]at hrle;have K:=Xy ι st.hp l Y_ ⟨.dead,Y_.w,[]⟩ hb rfl;have Hk:=H.kill hb;have Sk:=S.mono K;have Bk:BRel ι (st.hp.set l ⟨.dead,Y_.w,[]⟩) β st.bx w0 w:=B.mono K (λ_ _ _ _=>rfl) (BN _) λi cs j b hi f9 A I=>by
     rcases Ie A with⟨_,rfl,_⟩|⟨_,A⟩
     ·exact absurd rfl I
     exact B.heap i cs j b hi f9 A I
    have Tk:Step ι0 σ0 w0 ι (st.hp.set l ⟨.dead,Y_.w,[]⟩) w:=T.trans
     { keeps:=K
       kinds:=λj b b' A F=>by
        rcases Ie F with⟨rfl,rfl,_⟩|⟨_,F⟩
        ·rw[hb]at A;cases A;exact .inr ⟨k1,rfl⟩
        rw[A]at F;cases F;exact .inl rfl
       fresh:=λj b' hle' A I=>by
        rcases Ie A with⟨_,rfl,_⟩|⟨_,A⟩
        ·exact absurd rfl I
        have:=BB A;omega
       frame:=λ_ _ _=>rfl
       size:=BN _
       os:=rfl
       output:=rfl
       tape:=rfl }
    have hcl:(Y_.cs.take (n*Y_.w)).length=n*Y_.w:=(by simp;omega);have hrt:o_ ι (st.hp.set l ⟨.dead,Y_.w,[]⟩) (Y_.cs.take (n*Y_.w)) (arr.toList.take (n*Y_.w)):=by
     refine⟨by simp;omega,λi u D=>?_⟩;rw[JC]at D;split at D
     ·rename_i hi;obtain⟨O,x1,N,Y⟩:=hrc.2 i u D;exact⟨O,x1,by rw[JC,Ad hi];exact N,λβ=>(Y β).cellMono K O⟩
     cases D
    have hRk:=hR.mono K;rcases hcase with⟨cc,M,hn,hcc⟩|⟨rfl,b,M⟩
    ·rw [z0]at M;simp only[BJ]at M hcc;by_cases t:n+k<=cc
     ·
      have hfit:0+n*inf.size+J.length<=arr.size:=by
       rw[g3,hns,hsz,BJ,<- D2];exact CW (Hz _ t) hcc
      have hone:∀u∈J,u.oneCell'=true:=by
       intro u D;obtain⟨i,hi⟩:=Kg D;have h_:i<C.length:=(by have:=(List.getElem?_eq_some_iff.1 hi).1;omega);obtain⟨O,x1,N,Y⟩:=hR.2 i _ (Bc h_);rw[hi]at N;cases N;exact(Y β).oneCell O
      have s:=Zde (ty:=o.type) g1 g2 ht1 hd1 hS' harr t hfit hone;rw[<- M]at s;rw[g3,BJ]at s;have hfree:∀(j:Nat) (b:Blk),(st.hp.set l ⟨.dead,Y_.w,[]⟩)[j]?=some b->b.k≠.dead->(ι j).b≠(ι l).b:=by
       intro j b A I;rcases Ie A with⟨_,rfl,_⟩|⟨hjl,A⟩
       ·exact absurd rfl I
       exact λg=>H.apart l j Y_ b (Ic hjl) hb A k1 I g.symm
      have hsz2:((arr.toList.take (n*Y_.w)++J++arr.toList.drop (n*Y_.w+J.length)).toArray).size=arr.size:=by
       rw[g3,BJ]at hfit;simp;omega
      have hrc2:o_ ι (st.hp.set l ⟨.dead,Y_.w,[]⟩) (Y_.cs.take (n*Y_.w)++C) (arr.toList.take (n*Y_.w)++J++arr.toList.drop (n*Y_.w+J.length)).toArray.toList:=by
       have hal:(arr.toList.take (n*Y_.w)).length=n*Y_.w:=(by simp;omega);refine⟨by simp;omega,λi u D=>?_⟩;by_cases hi:i<(Y_.cs.take (n*Y_.w)).length
       ·rw[Bp hi]at D;obtain⟨O,x1,N,Y⟩:=hrt.2 i u D;refine⟨O,x1,?_,Y⟩;simp only[Cj];rw[Bp (by omega)];exact N
       rw[Dj (by omega)]at D;have hi2:=(List.getElem?_eq_some_iff.1 D).1;obtain⟨O,x1,N,Y⟩:=hRk.2 _ u D;refine⟨O,x1,?_,Y⟩;simp only[Cj];rw[Dj (by omega),Bp (by omega),hal];rw[hcl]at N;exact N
      have Had:=(Hk.setRow (arr':=(arr.toList.take (n*Y_.w)++J++arr.toList.drop (n*Y_.w+J.length)).toArray) hfree).adopt (wd:=Y_.w) (Xj harr) hfree hrc2;have KP:=Tj ι (st.hp.set l ⟨.dead,Y_.w,[]⟩) ⟨(ι l).b,0,(arr.toList.take (n*Y_.w)++J++arr.toList.drop (n*Y_.w+J.length)).toArray.size⟩ ⟨.own,Y_.w,Y_.cs.take (n*Y_.w)++C⟩;have hslen:(st.hp.set l ⟨.dead,Y_.w,[]⟩).length=st.hp.length:=(by simp);refine⟨_,_,_,_,β,U s,.inl rfl,Had,?_,Sk.mono KP,?_,?_⟩
      ·refine Bk.mono KP (λi cs hi f9=>J2 (λg=>B.heap i cs l Y_ hi f9 hb (by rw[k1];decide) g.symm)) (by rw[MM];exact BN _) λi cs j b hi f9 A I=>?_;rcases GB A with⟨h_,A⟩|⟨rfl,rfl⟩
       ·rw[DX _ _ _ _ (by omega)];exact Bk.heap i cs j b hi f9 A I
       rw[CR];exact B.heap i cs l Y_ hi f9 hb (by rw[k1];decide)
      ·have:=Rel.slice (ι:=upd ι (st.hp.set l ⟨.dead,Y_.w,[]⟩).length ⟨(ι l).b,0,(arr.toList.take (n*Y_.w)++J++arr.toList.drop (n*Y_.w+J.length)).toArray.size⟩)
        (σ:=(st.hp.set l ⟨.dead,Y_.w,[]⟩)++[⟨.own,Y_.w,Y_.cs.take (n*Y_.w)++C⟩]) (β:=β) (st.hp.set l ⟨.dead,Y_.w,[]⟩).length 0 (n+k) cc ⟨.own,Y_.w,Y_.cs.take (n*Y_.w)++C⟩ (by rw[Dj (BN _)];simp) t
        (by rw[CR];simp only[hsz2,hsz];omega) (by first|assumption|(simp only;omega))
       rw[CR]at this;simpa [hslen]using this
      refine T.trans { keeps:=K.trans KP,kinds:=λj b b' A F=>?_,fresh:=λj b' hle' A I=>?_,frame:=λb hb' hf=>J2 (λg=>hf l Y_ hb k1 g.symm),size:=by rw[MM];exact BN _,os:=rfl,output:=rfl,tape:=rfl }
      ·rcases GB F with⟨h_,F⟩|⟨rfl,rfl⟩
       ·rcases Ie F with⟨rfl,rfl,_⟩|⟨_,F⟩
        ·rw[hb]at A;cases A;exact .inr ⟨k1,rfl⟩
        rw[A]at F;cases F;exact .inl rfl
       have:=BB A;omega
      rcases GB A with⟨h_,A⟩|⟨rfl,rfl⟩
      ·omega
      rw[CR];exact⟨rfl,.inr ⟨l,Y_,hb,k1,rfl⟩⟩
     ·
      have hol:(arr.toList.take (n*Y_.w)).length=n*Y_.w:=(by simp;omega);have hload:∀w':World,w'.heap=w.heap->(Builtin.firstCells inf.size n (.slice (some ⟨(ι l).b,0,none⟩) n cc)).run P w'= .ok (arr.toList.take (n*Y_.w)).toArray w':=by
       intro w' hw';have:=Tb (P:=P) (w:=w') (ad:=⟨(ι l).b,0,none⟩) (cs:=arr.toList.take (n*Y_.w)) (λj u D=>by
        rw[M6,BJ];rw[JC]at D;split at D
        ·simp only[World.cell?,hw',harr];simpa using D
        cases D)
       rw[hol]at this;simp only[Builtin.firstCells,g3];exact this
      have:=grow _ n cc (st.hp.set l ⟨.dead,Y_.w,[]⟩) (Y_.cs.take (n*Y_.w)) (arr.toList.take (n*Y_.w)) M (by omega) k5 hcl hol (hload _ rfl) Hk Bk Sk Tk hrt hRk;simpa using this
    ·
     have h0:(Y_.cs.take (0*Y_.w))=[]:=(by simp);have:=grow b 0 0 (st.hp.set l ⟨.dead,Y_.w,[]⟩) [] [] M (by omega) (by simpa using k5) (by simp) (by simp) (by cases b<;>simp[Builtin.firstCells,loadCells,loadCellsFrom]) Hk Bk Sk Tk ⟨BN _,by simp⟩ hRk;simpa [h0]using this
   cases L
  cases L
 cases e
end
def isSome(o:Option TypeDesc):Bool:=match o with|some _=>true|none=>false
def NA(o:Option TypeDesc):Bool:=match o with|some .string=>true|_=>false
def et(o:Option TypeDesc):Bool:=match o with|some .bool=>true|_=>false
def fY(o:Option TypeDesc):Bool:=match o with|some (.interface _)=>true|_=>false
def Zd(o:Option TypeDesc)(k:IntKind):Bool:=match o with|some (.int k')=>k' == k|_=>false
def UP(o:Option TypeDesc):Bool:=match o with|some (.slice _)=>true|_=>false
def dr(P:Program)(t:TypeId)(f off:Nat):Bool:=M7 P t f off none||(match P.underlying t with|some (.struct fs)=>(match fs[f]? with|some g=>M7 P t f off (some (P.cellsOf g.type))|none=>false)|_=>false)
def dS(P:Program)(t:TypeId)(b:Array (Nat×Operand))(g:List V)(i:List (Nat×Nat×T_)):Bool:=
 match P.underlying t with
 |some (.struct fs)=>(fs.toList.all λf=>(P.info? f.type).isSome)&&Jy P t g&&H9 (Qz P fs) b.toList i
 |_=>false
def ga(P:Program)(t:TypeId)(n:Nat)(b:Array (Nat×Operand))(w:Nat)(j:List V)(g:List (Nat×Nat×T_)):Bool:=
 match P.underlying t with
 | some (.slice e)=>(match P.info? e with
   | some i=>(match i.zero with
     |some z=>i.size == w&&decide (n*w<=2^24)&&GG (madeCells z.cells (n*w)).toList j&&H9 (λi=>some (i*w,w)) b.toList g&&(n != 0||g.isEmpty)
     |none=>false)
   |none=>false)
 |_=>false
def sF(P:Program)(t:TypeId)(w:Nat)(b:List V):Bool:=JE P t w&&(match P.underlying t with|some (.slice e)=>Jy P e b|_=>false)
def Yu(P:Program)(t:TypeId)(n:Nat):Bool:=match P.info? t with|some i=>i.size == n|none=>false
def fR(P:Program)(t:TypeId)(n:Nat):Bool:=P.eqGuardType P.depth t == false&&(match Ms P 50 t with|some (some m)=>m == n|_=>false)
def qy(P:Program)(s d:TypeId):Bool:=NA (P.underlying d)&&(match P.underlying s with|some (.slice e)=>Zd (P.underlying e) .u8|_=>false)
def LO(P:Program)(b:Builtin)(args:List Operand)(g:List TypeId):p_->Bool
 |.len y=>(match b,args,g with|.len,[x],[t]=>UP (P.underlying t)&&AH x y|_,_,_=>false)
 |.lenT y=>(match b,args,g with|.len,[x],[t]=>NA (P.underlying t)&&AH x y|_,_,_=>false)
 |.minI x' y'=>(match b,args with|.min,[x,y]=>AH x x'&&AH y y'|_,_=>false)
 |.maxI x' y'=>(match b,args with|.max,[x,y]=>AH x x'&&AH y y'|_,_=>false)
 |.app w x' y'=>(match b,args,g with|.append,[x,y],[t0,t1]=>JE P t0 w&&(UP (P.underlying t1)||NA (P.underlying t1))&&AH x x'&&AH y y'|_,_,_=>false)
 |.appN w x' y'=>(match b,args,g with|.append,[x,y],[t0,t1]=>JE P t0 w&&(UP (P.underlying t1)||NA (P.underlying t1))&&AH x x'&&AH y y'|_,_,_=>false)
 |_=>false
def Fq(P:Program):Op->p_->Bool
 |.move x,.mv y=>AH x y|.assign x,.mv y=>AH x y|.nilCheck x,.z_ y=>AH x y|.pick c x y,.pick c' x' y'=>AH c c'&&AH x x'&&AH y y'|.alloc t,.d7 _ zs=>Jy P t zs|.alloc t,.allocH zs=>Jy P t zs|.box _ x,.boxB _ _ y=>AH x y|.box _ x,.boxH _ y=>AH x y|.build t parts,.build zs ps=>dS P t parts zs ps|.makeSlice t l c,.mkSlice w zs y=>sF P t w zs&&AH l y&&AH c y|.buildSlice t n parts,.d4 w m zs ps=>n == m&&ga P t n parts w zs ps|.load t x,.d6 _ n y=>Iv P t n&&AH x y|.load t x,.g9 n y=>Iv P t n&&AH x y|.load t x,.loadX _ _ n y=>Iv P t n&&AH x y|.store t x y,.U_ _ n x' y'=>Yu P t n&&AH x x'&&AH y y'|.store t x y,.f6 n x' y'=>Yu P t n&&AH x x'&&AH y y'|.binOp op _ x y _,.bin op' x' y'=>op == op'&&AH x x'&&AH y y'|.binOp op t x y _,.eqB neg x' y'=>op == (if neg then .neq else .eql)&&et (P.underlying t)&&AH x x'&&AH y y'|.binOp op t x y _,.eqN neg x' y'=>op == (if neg then .neq else .eql)&&fY (P.underlying t)&&AH x x'&&AH y y'|.binOp op t x y _,.eqA n neg x' y'=>op == (if neg then .neq else .eql)&&fR P t n&&AH x x'&&AH y y'|.unOp op _ x,.un op' y=>op == op'&&AH x y|.convert s d x,.conv k y=>isSome (P.underlying s)&&Zd (P.underlying d) k&&AH x y|.convert s d x,.bstr y=>qy P s d&&AH x y|.slice t x lo hi none,.slice w y lo' hi'=>JE P t w&&AH x y&&HP lo lo'&&HP hi hi'|.slice t x lo hi none,.substr y lo' hi'=>NA (P.underlying t)&&AH x y&&HP lo lo'&&HP hi hi'|.fieldAddr t x f,.f5 off y=>dr P t f off&&AH x y|.field t x f,.field off n y=>M7 P t f off n&&AH x y|.indexAddr t x i,.m_ w x' i'=>JE P t w&&AH x x'&&AH i i'|.index t x i,.index x' i'=>NA (P.underlying t)&&AH x x'&&AH i i'|.extract x i,.extract y j=>i == j&&AH x y|.call c,ao=>(match c.callee with|.builtin b=>LO P b c.args.toList c.argTypes.toList ao|_=>false)
 |_,_=>false
theorem QC{o:Option TypeDesc}(h:NA o=true):o=some .string:=by unfold NA at h;split at h<;>first|rfl|cases h
theorem Zdd{o:Option TypeDesc}(h:et o=true):o=some .bool:=by unfold et at h;split at h<;>first|rfl|cases h
theorem ZeM{o:Option TypeDesc}(h:fY o=true):∃b,o=some (.interface b):=by unfold fY at h;split at h<;>first|exact⟨_,rfl⟩|cases h
theorem mx{o:Option TypeDesc}{k:IntKind}(h:Zd o k=true):o=some (.int k):=by unfold Zd at h;split at h<;>first|(simp at h;rw[h])|cases h
theorem bO{o:Option TypeDesc}(h:UP o=true):∃e,o=some (.slice e):=by unfold UP at h;split at h<;>first|exact⟨_,rfl⟩|cases h
theorem ZdQ{o:Option TypeDesc}(h:isSome o=true):o.isSome=true:=by unfold isSome at h;split at h<;>first|rfl|cases h
theorem Zb9{P:Program}{t:TypeId}{f off:Nat}(h:dr P t f off=true):∃n,M7 P t f off n=true:=by
 unfold dr at h;rw[Ce]at h;rcases h with h|h
 ·exact⟨_,h⟩
 split at h
 ·split at h
  ·exact⟨_,h⟩
  cases h
 cases h
theorem Zdb{P:Program}{t:TypeId}{b:Array (Nat×Operand)}{i:List V}{j:List (Nat×Nat×T_)}(h:dS P t b i j=true):∃g,P.underlying t=some (.struct g)/\(g.toList.all λf=>(P.info? f.type).isSome)=true/\Jy P t i=true/\H9 (Qz P g) b.toList j=true:=by
 unfold dS at h;split at h
 ·rename_i g n;simp only[Aj]at h;exact⟨g,n,h.1.1,h.1.2,h.2⟩
 cases h
theorem Zew{P:Program}{t:TypeId}{n w:Nat}{b:Array (Nat×Operand)}{q:List V}{j:List (Nat×Nat×T_)}(h:ga P t n b w q j=true):∃e i z,P.underlying t=some (.slice e)/\P.info? e=some i/\i.zero=some z/\i.size=w/\n*w<=2^24/\GG (madeCells z.cells (n*w)).toList q=true/\H9 (λi=>some (i*w,w)) b.toList j=true/\(n=0->j=[]):=by
 unfold ga at h;split at h
 ·rename_i e u;split at h
  ·rename_i i hi;split at h
   ·rename_i z s;simp only[Aj,Bb,Ay,Ce,TV,Hu,List.isEmpty_iff]at h;obtain⟨⟨⟨⟨h1,C⟩,A⟩,y⟩,x⟩:=h;exact⟨e,i,z,u,hi,s,h1,C,A,y,λh0=>x.resolve_left (λg=>g h0)⟩
   cases h
  cases h
 cases h
theorem kV{P:Program}{t:TypeId}{n:Nat}(h:Yu P t n=true):∃i,P.info? t=some i/\i.size=n:=by
 unfold Yu at h;split at h
 ·rename_i i hi;exact⟨i,hi,by simpa using h⟩
 cases h
theorem Zer{P:Program}{t:TypeId}{n:Nat}(h:fR P t n=true):P.eqGuardType P.depth t=false/\Ms P 50 t=some (some n):=by
 unfold fR at h;simp only[Aj,Bb]at h;refine⟨h.1,?_⟩;have b:=h.2;split at b
 ·rename_i m hm;simp at b;subst b;exact hm
 cases b
theorem fv{op:BinOp}{b:Bool}(h:(op == (if b then .neq else .eql))=true):op=if b then .neq else .eql:=by simpa using h
section
variable {P:Program} {o:Oper} {a:Act} {ι:AL} {β:Nat->Nat} {st:St} {w0 w:World} {v:V} {bx:List (List V)} {hp:Ac}
 (H:HRel ι st.hp w) (B:BRel ι st.hp β st.bx w0 w) (S:SRel ι st.hp β st.sl a.tmps) {ι0:AL} {σ0:Ac} (T:Step ι0 σ0 w0 ι st.hp w)
include H B S T
theorem n9{I:p_}(g:Fq P o.op I=true)(e:Af I st=some (v,bx,hp)):Out P o a ι0 σ0 w0 w (I.clears st.sl) v bx hp:=by
 unfold Fq at g;split at g
 ·rename_i j;exact rN H B S T (.inl j) g e
 ·rename_i j;exact rN H B S T (.inr j) g e
 ·rename_i j;exact ZhB H B S T j g e
 ·rename_i j;simp only[Aj]at g;exact ZiI H B S T j g.1.1 g.1.2 g.2 e
 ·rename_i j;exact ZgF H B S T j g e
 ·rename_i j;exact ZgH H B S T j g e
 ·rename_i j;exact Zjf H B S T j g e
 ·rename_i j;exact ZiJ H B S T j g e
 ·rename_i j;obtain⟨R,h1,s,A,G⟩:=Zdb g;exact Zhq H B S T j h1 s A G e
 ·rename_i j;simp only[Aj,sF]at g;obtain⟨⟨⟨h1,s⟩,A⟩,G⟩:=g;split at s
  ·rename_i el t;exact ZeA H B S T j h1 t s A G e
  cases s
 ·rename_i j;simp only[Aj,Bb]at g;obtain⟨h0,g⟩:=g;subst h0;obtain⟨el,i,z,h1,s,A,G,N,M,L,J⟩:=Zew g;exact Zd1 H B S T j h1 s A G N M L J e
 ·rename_i j;simp only[Aj]at g;exact Zg0 H B S T j g.1 g.2 e
 ·rename_i j;simp only[Aj]at g;exact oT H B S T j g.1 g.2 e
 ·rename_i j;simp only[Aj]at g;exact oT H B S T j g.1 g.2 (XQ e).2
 ·rename_i j;simp only[Aj]at g;obtain⟨i,h1,s⟩:=kV g.1.1;exact ZgS H B S T j h1 s g.1.2 g.2 e
 ·rename_i j;simp only[Aj]at g;obtain⟨i,h1,s⟩:=kV g.1.1;exact Zga H B S T j h1 s g.1.2 g.2 e
 ·rename_i j;simp only[Aj,Bb]at g;obtain⟨⟨rfl,h1⟩,s⟩:=g;exact ZjT H B S T j h1 s e
 ·rename_i j;simp only[Aj]at g;exact Zj4 H B S T j (fv g.1.1.1) (Zdd g.1.1.2) g.1.2 g.2 e
 ·rename_i j;simp only[Aj]at g;obtain⟨O,h⟩:=ZeM g.1.1.2;exact ZjU H B S T j (fv g.1.1.1) h g.1.2 g.2 e
 ·rename_i j;simp only[Aj]at g;obtain⟨h1,s⟩:=Zer g.1.1.2;exact ZjX H B S T j (fv g.1.1.1) h1 s g.1.2 g.2 e
 ·rename_i j;simp only[Aj,Bb]at g;obtain⟨rfl,h1⟩:=g;exact ZkD H B S T j h1 e
 ·rename_i j;simp only[Aj]at g;exact Zi4 H B S T j (ZdQ g.1.1) (mx g.1.2) g.2 e
 ·rename_i j;simp only[Aj,qy]at g;obtain⟨⟨h1,s⟩,A⟩:=g;split at s
  ·rename_i el t;exact Zi0 H B S T j t (mx s) (QC h1) A e
  cases s
 ·rename_i j;simp only[Aj]at g;exact Zij H B S T j g.1.1.1 g.1.1.2 g.1.2 g.2 e
 ·rename_i j;simp only[Aj]at g;exact ZfY H B S T j (QC g.1.1.1) g.1.1.2 g.1.2 g.2 e
 ·rename_i j;simp only[Aj]at g;obtain⟨n,h⟩:=Zb9 g.1;exact Zgd H B S T j h g.2 e
 ·rename_i j;simp only[Aj]at g;exact Zg6 H B S T j g.1 g.2 e
 ·rename_i j;simp only[Aj]at g;exact ZgM H B S T j g.1.1 g.1.2 g.2 e
 ·rename_i j;simp only[Aj]at g;exact Zia H B S T j (QC g.1.1) g.1.2 g.2 e
 ·rename_i j;simp only[Aj,Bb]at g;obtain⟨rfl,h1⟩:=g;exact Zep H B S T j h1 e
 ·rename_i j;split at g
  ·rename_i b y;have q:∀ {α:Type} {x:Array α} {l:List α},x.toList=l->x=l.toArray:=λh=>(by rw[<- h]);unfold LO at g;split at g
   ·split at g
    ·rename_i h1 s;simp only[Aj]at g;obtain⟨el,t⟩:=bO g.1;exact Ziv H B S T j y (q h1) (q s) t g.2 e
    cases g
   ·split at g
    ·rename_i h1 s;simp only[Aj]at g;exact ZiV H B S T j y (q h1) (q s) (QC g.1) g.2 e
    cases g
   ·split at g
    ·rename_i h1;simp only[Aj]at g;exact ZjI H B S T j y (q h1) g.1 g.2 e
    cases g
   ·split at g
    ·rename_i h1;simp only[Aj]at g;exact Zit H B S T j y (q h1) g.1 g.2 e
    cases g
   ·split at g
    ·rename_i h1 s;simp only[Aj,Ce]at g;obtain⟨⟨⟨F,u⟩,D⟩,C⟩:=g;rcases u with u|u
     ·obtain⟨el,t⟩:=bO u;exact YO H B S T j y (q h1) (q s) F t (.inl ⟨el,rfl⟩) D C e
     exact YO H B S T j y (q h1) (q s) F (QC u) (.inr rfl) D C e
    cases g
   ·split at g
    ·rename_i h1 s;simp only[Aj,Ce]at g;obtain⟨⟨⟨F,u⟩,D⟩,C⟩:=g;rcases u with u|u
     ·obtain⟨el,t⟩:=bO u;exact YO H B S T j y (q h1) (q s) F t (.inl ⟨el,rfl⟩) D C ((cR (XM e)).symm.trans e)
     exact YO H B S T j y (q h1) (q s) F (QC u) (.inr rfl) D C ((cR (XM e)).symm.trans e)
    cases g
   cases g
  cases g
 cases g
end
def T_.slots:T_->List Nat
 |.t n=>[n]|.c _=>[]
def fa:Option T_->List Nat
 |none=>[]|some x=>x.slots
def T7:List (Nat×Nat×T_)->List Nat
 |[]=>[]|(_,_,x)::r=>x.slots++T7 r
def Yt:List T_->List Nat
 |[]=>[]|x::r=>x.slots++Yt r
def p_.uses:p_->List Nat
 |.mv x|.z_ x|.boxB _ _ x|.boxH _ x|.mkSlice _ _ x|.d6 _ _ x|.g9 _ x|.loadX _ _ _ x|.un _ x|.conv _ x|.bstr x|.f5 _ x|.field _ _ x|.len x|.lenT x|.extract x _=>x.slots|.pick c a b=>c.slots++a.slots++b.slots|.d7 _ _|.allocH _=>[]|.build _ ps|.d4 _ _ _ ps=>T7 ps|.U_ _ _ a x|.f6 _ a x|.bin _ a x|.eqB _ a x|.eqN _ a x|.eqA _ _ a x|.m_ _ a x|.index a x|.app _ a x|.appN _ a x|.minI a x|.maxI a x=>a.slots++x.slots|.slice _ x lo hi|.substr x lo hi=>x.slots++fa lo++fa hi|.callB _ _ args=>Yt args
def k_(b:List Nat)(s g:List V):Prop:=∀t∈b,get g t=get s t
theorem k_.left{a b:List Nat}{s g:List V}(h:k_ (a++b) s g):k_ a s g:=λt ht=>h t (eS _ ht)
theorem k_.right{a b:List Nat}{s g:List V}(h:k_ (a++b) s g):k_ b s g:=λt ht=>h t (eV _ ht)
theorem BG{x:T_}{s b:List V}(h:k_ x.slots s b):x.ev b=x.ev s:=by
 cases x with
 |t n=>exact h n (by simp[T_.slots])
 |c v=>rfl
theorem XB{x:Option T_}{s b:List V}(h:k_ (fa x) s b):x.map (·.ev b)=x.map (·.ev s):=by
 cases x with
 |none=>rfl
 |some x=>simp only[Cw];rw[BG h]
theorem W9{s b:List V}:∀(g:List (Nat×Nat×T_)) (cs:List V),k_ (T7 g) s b->D4 b cs g=D4 s cs g
 |[],_,_=>rfl
 | (off,size,x)::r,cs,h=>by
   have h1:x.ev b=x.ev s:=BG (k_.left h);simp only[D4,h1];split
   ·exact W9 r _ (k_.right h)
   rfl
theorem bB{s g:List V}:∀(b:List T_),k_ (Yt b) s g->b.map (·.ev g)=b.map (·.ev s)
 |[],_=>rfl
 |x::r,h=>by simp only[Cm];rw[BG (k_.left h),bB r (k_.right h)]
theorem bf{o:p_}{s u:List V}{bx:List (List V)}{hp:Ac}(h:k_ o.uses s u):Af o ⟨u,bx,hp⟩=Af o ⟨s,bx,hp⟩:=by
 cases o with
 |mv x=>simp only[Af,BG (x:=x) h]
 |z_ x=>simp only[Af,BG (x:=x) h]
 |boxB i n x=>simp only[Af,BG (x:=x) h]
 |boxH n x=>simp only[Af,BG (x:=x) h]
 |mkSlice w z x=>simp only[Af,BG (x:=x) h]
 |d6 i n x=>simp only[Af,BG (x:=x) h]
 |g9 n x=>simp only[Af,BG (x:=x) h]
 |loadX i c n x=>simp only[Af,BG (x:=x) h]
 |un op x=>simp only[Af,BG (x:=x) h]
 |conv k x=>simp only[Af,BG (x:=x) h]
 |bstr x=>simp only[Af,BG (x:=x) h]
 |f5 n x=>simp only[Af,BG (x:=x) h]
 |field n m x=>simp only[Af,BG (x:=x) h]
 |len x=>simp only[Af,BG (x:=x) h]
 |lenT x=>simp only[Af,BG (x:=x) h]
 |extract x i=>simp only[Af,BG (x:=x) h]
 |pick c a b=>simp only[Af,BG (x:=c) (k_.left (k_.left h)),BG (x:=a) (k_.right (k_.left h)),BG (x:=b) (k_.right h)]
 |d7 i g=>rfl
 |allocH g=>rfl
 |build g q=>simp only[Af,W9 q g h]
 |d4 w n g q=>simp only[Af,W9 q g h]
 |U_ i n a x=>simp only[Af,BG (x:=a) (k_.left h),BG (x:=x) (k_.right h)]
 |f6 n a x=>simp only[Af,BG (x:=a) (k_.left h),BG (x:=x) (k_.right h)]
 |bin op a x=>simp only[Af,BG (x:=a) (k_.left h),BG (x:=x) (k_.right h)]
 |eqB j a x=>simp only[Af,BG (x:=a) (k_.left h),BG (x:=x) (k_.right h)]
 |eqN j a x=>simp only[Af,BG (x:=a) (k_.left h)]
 |eqA n j a x=>simp only[Af,BG (x:=a) (k_.left h),BG (x:=x) (k_.right h)]
 |m_ w a x=>simp only[Af,BG (x:=a) (k_.left h),BG (x:=x) (k_.right h)]
 |index a x=>simp only[Af,BG (x:=a) (k_.left h),BG (x:=x) (k_.right h)]
 |app w a x=>simp only[Af,BG (x:=a) (k_.left h),BG (x:=x) (k_.right h)]
 |appN w a x=>simp only[Af,BG (x:=a) (k_.left h),BG (x:=x) (k_.right h)]
 |minI a x=>simp only[Af,BG (x:=a) (k_.left h),BG (x:=x) (k_.right h)]
 |maxI a x=>simp only[Af,BG (x:=a) (k_.left h),BG (x:=x) (k_.right h)]
 |slice w x t hi=>simp only[Af,BG (x:=x) (k_.left (k_.left h)),XB (x:=t) (k_.right (k_.left h)),XB (x:=hi) (k_.right h)]
 |substr x t hi=>simp only[Af,BG (x:=x) (k_.left (k_.left h)),XB (x:=t) (k_.right (k_.left h)),XB (x:=hi) (k_.right h)]
 |callB y f args=>rfl
def p_.isPure:p_->Bool
 |.mv _|.z_ _|.pick ..|.build ..|.bin ..|.eqB ..|.eqN ..|.eqA ..|.un ..|.conv ..|.substr ..|.f5 ..|.field ..|.m_ ..|.index ..|.len _|.lenT _|.minI ..|.maxI ..|.extract ..=>true|_=>false
def p_.isReadH:p_->Bool
 |.g9 ..|.loadX ..|.slice ..|.bstr _=>true|_=>false
def p_.isLoadB:p_->Bool
 |.d6 ..=>true|_=>false
def p_.isPush:p_->Bool
 |.mkSlice ..|.d4 ..|.allocH _|.boxH ..|.U_ ..|.appN ..=>true|_=>false
def p_.writesBox:p_->Option Nat
 |.U_ i _ _ _=>some i|_=>none
def p_.readsBox:p_->Option Nat
 |.d6 i _ _=>some i|.loadX i _ _ _=>some i|_=>none
def p_.clearsBox:p_->Bool
 |.d7 ..|.boxB ..=>true|_=>false
def p_.isSlice:p_->Bool
 |.slice ..=>true|_=>false
def p_.isApp:p_->Bool
 |.app ..=>true|_=>false
def p_.isCall:p_->Bool
 |.callB ..=>true|_=>false
def p_.isKeep:p_->Bool
 |.callB .all _ _=>true|_=>false
def p_.keptBy(p q:p_):Bool:=match q with
 | .callB (.box i' c') _ _=>(match p with
   |.loadX i c _ _=>i == i'&&c == c'
   |_=>false)
 |_=>false
def p_.isMv:p_->Bool
 |.mv _=>true|_=>false
theorem Ow{o:p_}(J:o.isPure=true){s:List V}{bx G:List (List V)}{hp F:Ac}{v:V}(e:Af o ⟨s,bx,hp⟩=some (v,G,F)):G=bx/\F=hp/\∀A z,Af o ⟨s,A,z⟩=some (v,A,z):=by
 have D:∀bx hp,Af o ⟨s,bx,hp⟩=((Af o ⟨s,[],[]⟩).map (·.1)).bind λv=>some (v,bx,hp):=by
  intro bx hp;cases o with
  |mv x=>rfl
  |z_ x=>simp only[Af];generalize x.ev s=u;cases u<;>rfl
  |pick c a b=>simp only[Af];generalize c.ev s=u;cases u<;>rfl
  | build zs ps=>
    simp only[Af];by_cases h:zs.all V.cell=true
    ·simp only[h,AX];cases D4 s zs ps<;>rfl
    simp only[h];rfl
  |bin op x y=>simp only[Af];cases CO op (x.ev s) (y.ev s)<;>rfl
  |eqB C x y=>simp only[Af];generalize x.ev s=u;generalize y.ev s=t;cases u<;>cases t<;>rfl
  | eqN C x y=>
    simp only[Af];generalize x.ev s=u;cases u<;>first|rfl|skip
    cases y with
    |t n=>rfl
    |c c=>cases c<;>first|rfl|(rename_i b;cases b<;>rfl)
  | eqA n C x y=>
    simp only[Af];generalize x.ev s=u;generalize y.ev s=t;cases u<;>cases t<;>first|rfl|skip
    rename_i a b;by_cases h:a.length=n/\b.length=n
    ·simp only[Ad h];cases Ex a b<;>rfl
    simp only[Ae h];rfl
  |un op x=>simp only[Af];cases JK op (x.ev s)<;>rfl
  |conv k x=>simp only[Af];generalize x.ev s=u;cases u<;>rfl
  | substr x lo hi=>
    simp only[Af];generalize x.ev s=u;cases u<;>first|rfl|skip
    rename_i t;dsimp only;cases Ey 0 (lo.map (·.ev s))with
    |none=>rfl
    | some l=>
      simp only[Jn];cases Ey t.length (hi.map (·.ev s))with
      |none=>rfl
      | some h=>
        simp only[Jn];by_cases g:l<=h/\h<=t.length
        ·simp only[Ad g];rfl
        simp only[Ae g];rfl
  |f5 off x=>simp only[Af];generalize x.ev s=u;cases u<;>rfl
  | field off n x=>
    simp only[Af];generalize x.ev s=u;cases u<;>first|rfl|skip
    rename_i cs;by_cases g:off+n.getD 1<=cs.length
    ·simp only[Ad g];cases CS n ((cs.drop off).take (n.getD 1))<;>rfl
    simp only[Ae g];rfl
  | m_ w x i=>
    simp only[Af];generalize x.ev s=u;generalize i.ev s=t;cases u<;>first|rfl|skip
    cases t<;>first|rfl|skip
    rename_i l q n k j;by_cases g:0<=j/\j<(n:Int)
    ·simp only[Ad g];rfl
    simp only[Ae g];rfl
  | index x i=>
    simp only[Af];generalize x.ev s=u;generalize i.ev s=t;cases u<;>first|rfl|skip
    cases t<;>first|rfl|skip
    rename_i t k j;by_cases g:0<=j
    ·simp only[Ad g];cases t[j.toNat]?<;>rfl
    simp only[Ae g];rfl
  |len x=>simp only[Af];generalize x.ev s=u;cases u<;>rfl
  |lenT x=>simp only[Af];generalize x.ev s=u;cases u<;>rfl
  |minI x y=>simp only[Af];generalize x.ev s=u;generalize y.ev s=t;cases u<;>first|rfl|(rename_i k _;cases k<;>first|rfl|(cases t<;>first|rfl|(rename_i k _;cases k<;>rfl)))
  |maxI x y=>simp only[Af];generalize x.ev s=u;generalize y.ev s=t;cases u<;>first|rfl|(rename_i k _;cases k<;>first|rfl|(cases t<;>first|rfl|(rename_i k _;cases k<;>rfl)))
  | extract x i=>
    simp only[Af];generalize x.ev s=u;cases u<;>first|rfl|skip
    rename_i I;dsimp only;cases I[i]?<;>rfl
  |_=>simp[p_.isPure]at J
 rw[D]at e;simp only[Ci]at e;obtain⟨u,h1,L⟩:=e;cases L;exact⟨rfl,rfl,λA z=>by rw[D,h1];rfl⟩
theorem lW{h:Ac}{b:Blk}{l w:Nat}(e:EO h l=some w):EO (h++[b]) l=some w:=by
 unfold EO at e ⊢;cases g:h[l]? with
 |none=>simp[g]at e
 | some c=>
   have i:l<h.length:=(List.getElem?_eq_some_iff.1 g).1;rw[Bp i,g];rw[g]at e;exact e
def Kept(hp b:Ac):Prop:=∀l,l<hp.length->b[l]?=hp[l]?
theorem Kept.push{hp g:Ac}(h:g=hp\/∃b,g=hp++[b]):Kept hp g:=by
 rcases h with rfl|⟨b,rfl⟩
 ·exact λ_ _=>rfl
 exact λl i=>Bp i
theorem Kept.rd{h g:Ac}(k:Kept h g){l o n:Nat}{cs:List V}(e:rd h l o n=some cs):Ag.rd g l o n=some cs:=by
 unfold Ag.rd at e ⊢;cases b:h[l]? with
 |none=>simp[b]at e
 | some c=>
   rw[k l (List.getElem?_eq_some_iff.1 b).1,b];rw[b]at e;exact e
theorem Kept.width{h g:Ac}(k:Kept h g){l w:Nat}(e:EO h l=some w):EO g l=some w:=by
 unfold EO at e ⊢;cases b:h[l]? with
 |none=>simp[b]at e
 | some c=>
   rw[k l (List.getElem?_eq_some_iff.1 b).1,b];rw[b]at e;exact e
theorem QD{o:p_}(D:o.isReadH=true){s:List V}{bx z:List (List V)}{hp y:Ac}{v:V}(e:Af o ⟨s,bx,hp⟩=some (v,z,y)):z=bx/\y=hp/\∀g b,Kept hp b->(∀i,o.readsBox=some i->A3 g i=A3 bx i)->Af o ⟨s,g,b⟩=some (v,g,b):=by
 cases o with
 | g9 n x=>
   simp only[Af]at e ⊢;generalize x.ev s=u at *;cases u<;>simp only[Ci,reduceCtorEq]at e;obtain⟨cs,t,u,q,j⟩:=e;cases j;exact⟨rfl,rfl,λg b h _=>by simp[h.rd t,q]⟩
 | loadX i c n x=>
   obtain⟨A,e⟩:=XQ e;simp only[Af]at e ⊢;simp only at A;generalize x.ev s=u at *;cases u<;>simp only[Ci,reduceCtorEq]at e;obtain⟨cs,t,u,q,j⟩:=e;cases j;exact⟨rfl,rfl,λg b h F=>by rw[F i rfl];simp[A,h.rd t,q]⟩
 | slice w x lo hi=>
   simp only[Af]at e ⊢;generalize x.ev s=u at *;cases u<;>simp only[Ci,reduceCtorEq]at e
   ·obtain⟨l,t,h,q,j⟩:=e;split at j
    ·rename_i C;cases j;refine⟨rfl,rfl,λg b _ _=>?_⟩;simp[t,q,C]
    cases j
   obtain⟨l,t,h,q,j⟩:=e;split at j
   ·rename_i C;obtain⟨I,c2,G⟩:=C;cases j;exact⟨rfl,rfl,λg b A _=>by simp[t,q,I,c2,A.width G]⟩
   cases j
 | bstr x=>
   simp only[Af]at e ⊢;generalize x.ev s=u at *;cases u<;>simp only[Ci,reduceCtorEq]at e
   ·cases e;exact⟨rfl,rfl,λ_ _ _ _=>rfl⟩
   obtain⟨cs,t,u,q,j⟩:=e;cases j;exact⟨rfl,rfl,λg b h _=>by simp[h.rd t,q]⟩
 |_=>simp[p_.isReadH]at D
theorem Oo{i:Nat}{n:Option Nat}{x:T_}{s:List V}{bx q:List (List V)}{hp j:Ac}{v:V}(e:Af (.d6 i n x) ⟨s,bx,hp⟩=some (v,q,j)):q=bx/\j=hp/\∀b g,A3 b i=A3 bx i->Af (.d6 i n x) ⟨s,b,g⟩=some (v,b,g):=by
 simp only[Af]at e ⊢;generalize x.ev s=u at *;cases u<;>simp only[reduceCtorEq]at e;split at e
 ·rename_i t;simp only[Ci]at e;obtain⟨u,z,y⟩:=e;cases y;refine⟨rfl,rfl,λb g h=>?_⟩;simp only[h,Ad t,z];rfl
 cases e
theorem TF{o:p_}(A:o.isPush=true){s:List V}{bx t:List (List V)}{hp q:Ac}{v:V}(e:Af o ⟨s,bx,hp⟩=some (v,t,q)):(q=hp\/∃b,q=hp++[b])/\∀i,o.writesBox≠some i->A3 t i=A3 bx i:=by
 cases o with
 | mkSlice w z x=>
   simp only[Af]at e;split at e
   ·split at e
    ·split at e
     ·cases e;exact⟨.inl rfl,λ_ _=>rfl⟩
     cases e;exact⟨.inr ⟨_,rfl⟩,λ_ _=>rfl⟩
    cases e
   cases e
 | d4 w n zs ps=>
   simp only[Af]at e;split at e
   ·cases e;exact⟨.inl rfl,λ_ _=>rfl⟩
   split at e
   ·simp only[Ci]at e;obtain⟨cs,_,e⟩:=e;cases e;exact⟨.inr ⟨_,rfl⟩,λ_ _=>rfl⟩
   cases e
 | allocH zs=>
   simp only[Af]at e;split at e
   ·cases e;exact⟨.inr ⟨_,rfl⟩,λ_ _=>rfl⟩
   cases e
 | boxH n x=>
   simp only[Af]at e;split at e
   ·cases e;exact⟨.inr ⟨_,rfl⟩,λ_ _=>rfl⟩
   cases e
 | U_ i n a x=>
   simp only[Af]at e;split at e
   ·split at e
    ·cases e;refine⟨.inl rfl,λj C=>?_⟩;have D:j≠i:=λh=>C (by rw[h];rfl);have:∀(s:List (List V)) (n m:Nat) (v:List V),m≠n->A3 (C6 s n v) m=A3 s m:=by
      intro s;induction s with
      |nil=>intros;rfl
      | cons x r ih=>
        intro n m v h;cases n with
        | zero=>cases m with
          |zero=>exact absurd rfl h
          |succ m=>rfl
        | succ n=>cases m with
          |zero=>rfl
          |succ m=>exact ih n m v (by omega)
     exact this _ _ _ _ D
    cases e
   cases e
 | appN w x y=>
   have u:=XM e;simp only[Af]at e;simp only at u;rw[u]at e;simp only at e;split at e
   ·simp only[Ci]at e;obtain⟨⟨G,h1⟩,g,F⟩:=e;cases F;unfold app at g;split at g
    ·cases g
    simp only at g;split at g
    ·cases g;exact⟨.inl rfl,λ_ _=>rfl⟩
    split at g
    ·cases g;exact⟨.inr ⟨_,rfl⟩,λ_ _=>rfl⟩
    cases g
   cases e
 |_=>simp[p_.isPush]at A
theorem ZeW{o:p_}(z:o.isSlice=true){s:List V}{bx n:List (List V)}{hp j:Ac}{v:V}(e:Af o ⟨s,bx,hp⟩=some (v,n,j)):n=bx/\j=hp/\∀g b,(∀l w,EO hp l=some w->EO b l=some w)->Af o ⟨s,g,b⟩=some (v,g,b):=by
 cases o<;>simp[p_.isSlice]at z;rename_i w x F hi;simp only[Af]at e ⊢;generalize x.ev s=u at *;cases u<;>simp only[Ci,reduceCtorEq]at e
 ·obtain⟨l,y,h,t,i⟩:=e;split at i
  ·rename_i q;cases i;refine⟨rfl,rfl,λg b _=>?_⟩;simp[y,t,q]
  cases i
 obtain⟨l,y,h,t,i⟩:=e;split at i
 ·rename_i q;obtain⟨D,c2,C⟩:=q;cases i;refine⟨rfl,rfl,λg b A=>?_⟩;simp[y,t,D,c2,A _ _ C]
 cases i
theorem ZfW{o:p_}(C:o.isApp=true){s:List V}{bx q:List (List V)}{hp j:Ac}{v:V}(e:Af o ⟨s,bx,hp⟩=some (v,q,j)):∀l w,EO hp l=some w->EO j l=some w:=by
 cases o<;>simp[p_.isApp]at C;rename_i w x y;intro l w' i;simp only[Af]at e;split at e
 ·simp only [Ci]at e;obtain⟨⟨I,h1⟩,g,G⟩:=e;cases G;unfold app at g;split at g
  ·cases g
  rename_i A k t;split at g
  ·split at g
   ·cases g;exact i
   split at g
   ·cases g;exact lW i
   cases g
  ·rename_i l' o n _;split at g
   ·cases g;exact i
   split at g
   ·rename_i b z;split at g
    ·rename_i D;cases g;refine lW ?_;unfold EO at i ⊢;rw[Hw];by_cases u:l'=l
     ·subst u;have F:l'<hp.length:=(List.getElem?_eq_some_iff.1 z).1;rw[z]at i;simp only[Ap]at i;simp[F,<- i,D.2.1]
     rw[Ae u];exact i
    cases g
   cases g
  cases g
 cases e
def sI(Φ:Phm)(v:V):Prop:=(∀l o n,v= .slice l o n->Φ l=none)/\∀l o,v= .ptr l o->Φ l=none
theorem l9{Φ:Phm}{h:Ac}{l:Nat}{Y_:Blk}(e:(kill Φ h)[l]?=some Y_)(i:0<Y_.w):Φ l=none:=by
 rw[GA]at e;cases g:h[l]? with
 |none=>rw[g]at e;cases e
 | some b=>
   rw[g]at e;simp only[Cw,Ap]at e;cases hp:Φ l with
   |none=>rfl
   |some c=>rw[hp]at e;simp at e;subst e;simp[NM]at i
theorem dA{Φ:Phm}{h:Ac}{ι:AL}{β:Nat->Nat}{v:V}{x:Value}(r:Rel ι (kill Φ h) β v x):sI Φ v:=by
 refine⟨λl o n e=>?_,λl o e=>?_⟩
 ·subst e;obtain⟨Y_,b,_⟩:=Gx r;exact l9 b (MN r b)
 subst e;obtain⟨⟨Y_,b⟩,_⟩:=Ju r;exact l9 b (Xt r b)
theorem Q9{Φ:Phm}{h:Ac}{l o n:Nat}(e:Φ l=none):rd (kill Φ h) l o n=rd h l o n:=by unfold rd;rw[Rb e]
theorem ZeU{Φ:Phm}{h:Ac}{l:Nat}(e:Φ l=none):EO (kill Φ h) l=EO h l:=by unfold EO;rw[Rb e]
def p_.heads:p_->List T_
 |.g9 _ x|.loadX _ _ _ x|.bstr x|.slice _ x _ _|.f6 _ x _=>[x]|.app _ x y=>[x,y]|.appN _ x y=>[x,y]|_=>[]
theorem Zil{P:Program}{op:Op}{o:p_}(b:Fq P op o=true):∀y∈o.heads,∃x,AH x y=true:=by
 intro y g;cases o<;>simp only[p_.heads,CE,List.not_mem_nil,or_false]at g;case g9 n x=>subst g;cases op<;>simp only[Fq,Aj,AZ]at b;exact⟨_,b.2⟩;(split at b<;>simp[LO]at b)
 case loadX i c n x=>subst g;cases op<;>simp only[Fq,Aj,AZ]at b;exact⟨_,b.2⟩;(split at b<;>simp[LO]at b)
 case bstr x=>subst g;cases op<;>simp only[Fq,Aj,AZ]at b;exact⟨_,b.2⟩;(split at b<;>simp[LO]at b)
 case slice w x lo hi=>
  subst g;cases op<;>simp only[Fq,AZ]at b
  ·rename_i t q s h1 j;cases j<;>simp only[Fq,Aj,AZ]at b;exact⟨_,b.1.1.2⟩
  (split at b<;>simp[LO]at b)
 case f6 n x z=>subst g;cases op<;>simp only[Fq,Aj,AZ]at b;exact⟨_,b.1.2⟩;(split at b<;>simp[LO]at b)
 case app w x z=>
  cases op<;>simp only[Fq,AZ]at b;split at b
  ·simp only[LO]at b;split at b
   ·simp only[Aj]at b;rcases g with rfl|rfl
    ·exact⟨_,b.1.2⟩
    exact⟨_,b.2⟩
   cases b
  cases b
 case appN w x z=>
  cases op<;>simp only[Fq,AZ]at b;split at b
  ·simp only[LO]at b;split at b
   ·simp only[Aj]at b;rcases g with rfl|rfl
    ·exact⟨_,b.1.2⟩
    exact⟨_,b.2⟩
   cases b
  cases b
theorem ZfJ{o:p_}{Φ:Phm}{sl:List V}{bx L:List (List V)}{h h1:Ac}{v:V}(j:Has Φ h)(F:∀x∈o.heads,sI Φ (x.ev sl))(e:Af o ⟨sl,bx,h⟩=some (v,L,h1)):Af o ⟨sl,bx,kill Φ h⟩=some (v,L,kill Φ h1)/\Has Φ h1:=by
 by_cases hp:o.isPure=true
 ·obtain⟨rfl,rfl,Z⟩:=Ow hp e;exact⟨Z _ _,j⟩
 cases o<;>first|exact absurd rfl hp|skip
 case d7 i zs=>
  simp only[Af]at e ⊢;split at e
  ·rename_i q;cases e;exact⟨by rw[Ad q],j⟩
  cases e
 case boxB i n x=>
  simp only[Af]at e ⊢;split at e
  ·rename_i q;cases e;exact⟨by rw[Ad q],j⟩
  cases e
 case allocH zs=>
  simp only[Af]at e ⊢;split at e
  ·rename_i q;cases e;exact⟨by rw[Ad q,Ev,OC j],j.push _⟩
  cases e
 case boxH n x=>
  simp only[Af]at e ⊢;split at e
  ·rename_i q;cases e;exact⟨by rw[Ad q,Ev,OC j],j.push _⟩
  cases e
 case mkSlice w z x=>
  simp only[Af]at e ⊢;generalize x.ev sl=u at *;split at e
  ·split at e
   ·rename_i q;simp only[Ad q];split at e
    ·rename_i h0;cases e;exact⟨by rw[Ad h0],j⟩
    rename_i h0;cases e;exact⟨by rw[Ae h0,Ev,OC j],j.push _⟩
   cases e
  cases e
 case d4 w n zs ps=>
  simp only[Af]at e ⊢;split at e
  ·rename_i h0;cases e;exact⟨by rw[Ad h0],j⟩
  rename_i h0;rw[Ae h0];split at e
  ·rename_i q;rw[Ad q];simp only[Ci]at e;obtain⟨cs,g,e⟩:=e;cases e;exact⟨by rw[g,Ev,OC j];rfl,j.push _⟩
  cases e
 case d6 i n x=>
  obtain⟨rfl,rfl,Z⟩:=Oo e;exact⟨Z _ _ rfl,j⟩
 case U_ i n a x=>
  simp only[Af]at e ⊢;generalize a.ev sl=u at *;split at e
  ·split at e
   ·rename_i q;cases e;exact⟨by rw[Ad q],j⟩
   cases e
  cases e
 case g9 n x=>
  have C:=F x (by simp[p_.heads]);simp only[Af]at e ⊢;generalize x.ev sl=u at *;split at e
  ·rename_i l o;simp only[Ci]at e;obtain⟨cs,g,u,D,e⟩:=e;cases e;exact⟨by rw[Q9 (C.2 l o rfl),g];simp[D],j⟩
  cases e
 case f6 n a x=>
  have C:=F a (by simp[p_.heads]);simp only[Af]at e ⊢;generalize a.ev sl=u at *;split at e
  ·rename_i l o;have G:=C.2 l o rfl;split at e
   ·rename_i q;simp only[Ad q];simp only[Ci]at e;obtain⟨I,g,e⟩:=e;cases e;unfold wr at g ⊢;rw[Rb G];split at g
    ·rename_i b hb;split at g
     ·rename_i Y;cases g;exact⟨by simp only[Ad Y];rw[XN G];rfl,j.set G _⟩
     cases g
    cases g
   cases e
  cases e
 case bstr x=>
  have C:=F x (by simp[p_.heads]);simp only[Af]at e ⊢;generalize x.ev sl=u at *;split at e
  ·cases e;exact⟨rfl,j⟩
  ·rename_i l o n;simp only[Ci]at e;obtain⟨cs,g,u,D,e⟩:=e;cases e;exact⟨by rw[Q9 (C.1 l o n rfl),g];simp[D],j⟩
  cases e
 case slice w x lo hi=>
  have C:=F x (by simp[p_.heads]);simp only[Af]at e ⊢;generalize x.ev sl=u at *;split at e
  ·simp only[Ci]at e;obtain⟨l1,g,I,D,e⟩:=e;split at e
   ·rename_i q;cases e;exact⟨by simp[g,D,q],j⟩
   cases e
  ·rename_i l o n;simp only[Ci]at e;obtain⟨l1,g,I,D,e⟩:=e;split at e
   ·rename_i q;cases e;exact⟨by simp[g,D,ZeU (C.1 l o n rfl),q],j⟩
   cases e
  cases e
 case app w x y=>
  have U:=F x (by simp[p_.heads]);have J:=F y (by simp[p_.heads]);simp only[Af]at e ⊢;generalize x.ev sl=u at *;generalize y.ev sl=t at *;split at e
  ·rename_i O;rw[Ad O];simp only[Ci]at e;obtain⟨⟨M,I⟩,g,e⟩:=e;cases e;have hs:DZ (kill Φ h) w t=DZ h w t:=by
    cases t<;>try rfl
    rename_i l o n;simp only[DZ,Q9 (J.1 l o n rfl)]
   have:app (kill Φ h) w u t=some (M,kill Φ I)/\Has Φ I:=by
    unfold app at g ⊢;rw[hs];split at g
    ·cases g
    rename_i N k s;try simp only[s]
    split at g
    ·split at g
     ·rename_i A;cases g;exact⟨by simp[A],j⟩
     rename_i A;split at g
     ·rename_i R;cases g;exact⟨by rw[Ae A,Ad R,Ev,OC j],j.push _⟩
     cases g
    ·rename_i l o n;have G:=U.1 l o n rfl;split at g
     ·rename_i A;cases g;exact⟨by simp[A],j⟩
     rename_i A;split at g
     ·rename_i b hb;split at g
      ·rename_i q;cases g;refine⟨?_,(j.set G _).push _⟩;simp only[Ae A,Rb G,hb,Ad q];rw[OC (j.set G _),XN G,Ev]
      cases g
     cases g
    cases g
   exact⟨by rw[this.1];rfl,this.2⟩
  cases e
 case appN w x y=>
  have hx:=XM e;simp only at hx;have J:=F y (by simp[p_.heads]);simp only[Af,hx]at e ⊢;generalize y.ev sl=t at *;split at e
  ·rename_i O;rw[Ad O];simp only[Ci]at e;obtain⟨⟨M,I⟩,g,e⟩:=e;cases e;have hs:DZ (kill Φ h) w t=DZ h w t:=by
    cases t<;>try rfl
    rename_i l o n;simp only[DZ,Q9 (J.1 l o n rfl)]
   have:app (kill Φ h) w .X_ t=some (M,kill Φ I)/\Has Φ I:=by
    unfold app at g ⊢;rw[hs];split at g
    ·cases g
    rename_i N k s;try simp only[s]
    simp only at g;split at g
    ·rename_i A;cases g;exact⟨by simp[A],j⟩
    rename_i A;split at g
    ·rename_i R;cases g;exact⟨by rw[Ae A,Ad R,Ev,OC j],j.push _⟩
    cases g
   exact⟨by rw[this.1];rfl,this.2⟩
  cases e
 case loadX i c n x=>
  have C:=F x (by simp[p_.heads]);obtain⟨hh,e⟩:=XQ e;rw[oD (st:=⟨sl,bx,kill Φ h⟩) hh];simp only[Af]at e ⊢;generalize x.ev sl=u at *;split at e
  ·rename_i l o;simp only[Ci]at e;obtain⟨cs,g,u,D,e⟩:=e;cases e;exact⟨by rw[Q9 (C.2 l o rfl),g];simp[D],j⟩
  cases e
 case callB=>simp[Af]at e
def dQ(ops:Array Oper):Option (Nat×Bool)->Option (Nat×Bool)->Bool
 |none,none=>true|some (j,want),some (g,want')=>want == want'&&(ops[j]?).bind (·.dst) == some g|_,_=>false
def pL(P:Program)(g:FuncId):Bool:=match P.funcs[g]? with|some b=>b.body.isSome&&b.name != "runtime.NumGoroutine"|none=>false
def LP(P:Program)(op:Op)(args:List T_):Option FuncId:=
 match op with
 | .call c=>(match c.callee with
   |.value (.func g)=>if Pp c.args.toList args&&pL P g then some g else none
   |_=>none)
 |_=>none
def Np(P:Program)(ops:Array Oper)(b:c_):Bool:=
 match ops[b.id]? with
 |some o=>o.dst == b.dst&&dQ ops o.guard b.guard&&(match b.op with|.callB _ _ args=>(LP P o.op args).isSome|p=>Fq P o.op p)
 |none=>false
def L7(P:Program)(ops:Array Oper)(b:c_):List (FuncId×Bg):=
 match b.op,ops[b.id]? with
 |.callB _ f args,some o=>(match LP P o.op args with|some g=>[(g,f)]|none=>[])
 |_,_=>[]
theorem Q8 {ι0 ι:AL} {σ0 hp:Ac} {Φ:Phm} {w0 w:World} {a:Act} {sl:List V} {bx:List (List V)} {β:Nat->Nat} {v:V} {x:Value} {d:Option Nat} (hd:a.defers=[]) (g:Has Φ hp) (H:HRel ι (kill Φ hp) w) (B:BRel ι (kill Φ hp) β bx w0 w)
 (S:SRel ι (kill Φ hp) β sl a.tmps) (j:Rel ι (kill Φ hp) β v x) (T:Step ι0 σ0 w0 ι (kill Φ hp) w):Dc ι0 σ0 w0 Φ (St.put ⟨sl,bx,hp⟩ d v) (a.put d x) w:=by
 cases d with
 |none=>exact⟨hd,g,ι,β,H,B,S,T⟩
 | some d=>
   refine⟨hd,g,ι,β,H,B,⟨by simpa [Act.put,St.put]using S.1,λi=>?_⟩,T⟩;simp only[Act.put,St.put];by_cases hi:i=d
   ·subst hi;by_cases b:i<sl.length
    ·rw[Zdo _ _ _ b];have:i<a.tmps.size:=Ih b S.1;have e:(a.tmps.setIfInBounds i x).getD i Go.undef=x:=(by simp[Array.getD,this]);rw[e];exact j
    rw[ZjQ _ _ (by simp;omega)];exact .undef _
   rw[kg _ _ _ _ hi];have e:(a.tmps.setIfInBounds d x).getD i Go.undef=a.tmps.getD i Go.undef:=by
    simp only[Nx,UH,Ae (Ic hi)]
   rw[e];exact S.2 i
theorem lL{ι ι':AL}{σ σ':Ac}{w0 w w':World}{β:Nat->Nat}{bx:List (List V)}(B:BRel ι σ β bx w0 w)(T:Step ι σ w ι' σ' w'):BRel ι' σ' β bx w0 w':=by
 refine B.mono T.keeps (λi cs hi b=>T.frame _ (B.new i cs hi b).2 λl Y_ n g=>B.heap i cs l Y_ hi b n (by rw[g];decide)) T.size λi cs l s hi b n g=>?_;by_cases u:l<σ.length
 ·obtain⟨Y_,q⟩:=QV u;rw[T.keeps.place l Y_ q];rcases T.kinds l Y_ s q n with e|⟨_,e⟩
  ·exact B.heap i cs l Y_ hi b q (e▸g)
  exact absurd e g
 rcases (T.fresh l s (by omega) n g).2 with e|⟨l0,j,h0,t,p0⟩
 ·have:=(B.new i cs hi b).2;omega
 rw[<- p0];exact B.heap i cs l0 j hi b h0 (by rw[t];decide)
theorem ZhL{n:List Operand}{b:List T_}(h:Pp n b=true){ι:AL}{σ:Ac}{β:Nat->Nat}{sl:List V}{a:Act}(S:SRel ι σ β sl a.tmps)(g:(b.map (·.ev sl)).all V.ok1=true):qc ι σ (b.map (·.ev sl)) (n.map a.eval):=by
 induction n generalizing b with
 | nil=>cases b with
   |nil=>exact⟨rfl,by simp⟩
   |cons=>simp[Pp]at h
 | cons x r ih=>cases b with
   |nil=>simp[Pp]at h
   | cons y s=>
     simp only[Pp,Aj]at h;simp only[Cm,F7,Aj]at g;obtain⟨h1,A⟩:=ih h.2 g.2;refine⟨by simp at h1 ⊢;exact h1,λi v z u t β'=>?_⟩;cases i with
     | zero=>
       simp at u t;subst u;subst t;refine(BI h.1 S).mono (.refl _ _) λj q e=>?_;rw[e]at g;simp[V.ok1,V.cell]at g
     |succ i=>exact A i v z (by simpa using u) (by simpa using t) β'
section
variable {P:Program} {ops:Array Oper} {ι0:AL} {σ0:Ac} {Φ:Phm} {w0:World} {st:St} {a:Act} {w:World} {Q:Exit->Act->World->Prop}
theorem ZhY{o:Oper}{args:List T_}{g:FuncId}(h:LP P o.op args=some g):∃n:List Operand,Pp n args=true/\(execOp a.eval o).run P w= .ok (.enter g (n.map a.eval).toArray) w:=by
 unfold LP at h;split at h
 ·rename_i c t;split at h
  ·rename_i A y;split at h
   ·rename_i b;cases h;simp only[Aj]at b;obtain⟨h1,i⟩:=b;unfold pL at i;split at i
    ·rename_i q j;simp only[Aj,TV,Hu]at i;refine⟨c.args.toList,h1,?_⟩;have z:q.body≠none:=by
      have:=i.1;intro s;rw[s]at this;simp at this
     have x:a.eval (.func g)= .func (.func g) #[] #[]:=rfl;have u:¬q.name= "runtime.NumGoroutine":=i.2
     simp[execOp,t,resolve,y,x,Deferred.ofValue,invoke,callFunc,j,z,u];apply Array.ext';simp
    cases i
   cases h
  cases h
 cases h
theorem ZdB{bx:List (List V)}{n:KP}{f:Bg}{g:FuncId}(hs:AA P g f):AA P g (Rs bx n f):=by
 cases n with
 |no=>exact hs
 | all=>
   rintro Φ ι σ w args xs Q h1 h2 h3 ⟨Q0,h4,h5⟩ h6;refine(hs Φ ι σ w args xs Q0 h1 h2 h3 h4 h6).mono ?_;rintro e w' ⟨x,r,σ',ι',rfl,j,b⟩;exact⟨x,r,σ',ι',rfl,(h5 r σ' j).2,b⟩
 | box i c=>
   rintro Φ ι σ w args xs Q h1 h2 h3 ⟨Q0,h4,h5⟩ h6;refine(hs Φ ι σ w args xs Q0 h1 h2 h3 h4 h6).mono ?_;rintro e w' ⟨x,r,σ',ι',rfl,j,b⟩;exact⟨x,r,σ',ι',rfl,(h5 r σ' j).2,b⟩
variable [hG:GlC P ι0 σ0 w0]
theorem Zbt {o:Oper} {z:KP} {f:Bg} {args:List T_} {g:FuncId} {d:Option Nat} {k:St->Prop} {K:Act->World->Prop} (hd:o.dst=d) (D:LP P o.op args=some g) (hs:AA P g f) (n:Dc ι0 σ0 w0 Φ st a w)
 (h:AP (.callB z f args) d k st) (F:∀f4 y w',Dc ι0 σ0 w0 Φ f4 y w'->k f4->K y w'):o.wp P a w K Q:=by
 obtain⟨s,G,ι,β,H,B,S,T⟩:=n;obtain⟨b,i⟩:=h;obtain⟨J,q,j⟩:=ZhY (a:=a) (w:=w) D;unfold Oper.wp;rw[j,Oper.upon_enter];refine(ZdB hs Φ ι st.hp w _ _ _ G H (ZhL q S b) i (hG.gl.step T)).mono ?_;rintro e w' ⟨x,r,σ',ι',rfl,C,t,A,I,u⟩;refine F _ _ _ ?_ C;subst hd;exact Q8 s t I (lL B u) (S.mono u.keeps) (A β) (T.trans u)
theorem mP {o:Oper} {i:p_} {d:Option Nat} {k:St->Prop} {K:Act->World->Prop} (hd:o.dst=d) (F:match i with|.callB _ _ args=>(LP P o.op args).isSome=true|p=>Fq P o.op p=true)
 (U:∀n f args g,i= .callB n f args->LP P o.op args=some g->AA P g f) (j:Dc ι0 σ0 w0 Φ st a w) (h:AP i d k st) (C:∀f4 I w',Dc ι0 σ0 w0 Φ f4 I w'->k f4->K I w'):o.wp P a w K Q:=by
 by_cases b:∃n f args,i= .callB n f args
 ·obtain⟨n,f,args,rfl⟩:=b;obtain⟨g,G⟩:=Option.isSome_iff_exists.1 F;exact Zbt hd G (U n f args g rfl G) j h C
 have s:Fq P o.op i=true:=by
  cases i<;>first|exact F|exact absurd ⟨_,_,_,rfl⟩ b
 have h':match Af i st with|some (v,bx,hp)=>k (St.put { sl:=i.clears st.sl,bx,hp } d v)|none=>False:=by
  cases i<;>first|exact h|exact absurd ⟨_,_,_,rfl⟩ b
 split at h'
 ·rename_i v bx hp A;obtain⟨t,Y,ι,β,H,B,S,T⟩:=j;obtain⟨A,u⟩:=ZfJ (sl:=st.sl) (bx:=st.bx) Y (λy O=>by obtain⟨x,R⟩:=Zil s y O;exact dA (BI R S)) A;obtain⟨Z,x,w',ι',β',q,z,M,N,L,D,J⟩:=n9 (st:=⟨st.sl,st.bx,kill Φ st.hp⟩) H B S T s A;subst hd;unfold Oper.wp;rw[q];rcases z with rfl|⟨rfl,rfl⟩
  ·exact C _ _ _ (Q8 t u M N L D J) h'
  exact C _ _ _ (Q8 t u M N L D J) h'
 exact h'.elim
theorem kZ {z:c_} {k:St->Prop} {K:Act->World->Prop} (C:Np P ops z=true) (hc:∀p∈L7 P ops z,AA P p.1 p.2) (i:Dc ι0 σ0 w0 Φ st a w) (h:Cx z k st)
 (G:∀f4 a' w',Dc ι0 σ0 w0 Φ f4 a' w'->k f4->K a' w'):wpOp P ops Q z.id K a w:=by
 unfold Np at C;split at C
 ·rename_i o Z;simp only[Aj,Bb]at C;obtain⟨⟨h1,D⟩,h3⟩:=C;have q:match z.op with|.callB _ _ args=>(LP P o.op args).isSome=true|p=>Fq P o.op p=true:=by
   revert h3;cases z.op<;>exact λh=>h
  have s:∀U f args g,z.op= .callB U f args->LP P o.op args=some g->AA P g f:=by
   intro U f args g e1 R;exact hc (g,f) (by simp[L7,e1,Z,R])
  unfold wpOp;simp only[Z];unfold Cx at h;unfold dQ at D;split at D
  ·rename_i I O;have A:Region.wanted o (yielded ops a.tmps)=true:=(by unfold Region.wanted;rw[I]);rw[O]at h;rw[Ad A];exact .inl (mP h1 q s i h G)
  ·rename_i j t g J I O;simp only[Aj,Bb]at D;obtain⟨rfl,hj⟩:=D;rw[O]at h;have n:Rel _ _ _ (get st.sl g) (a.tmps.getD g Go.undef):=i.2.2.choose_spec.choose_spec.2.2.1.2 g;have Y:yielded ops a.tmps j=match a.tmps[g]? with|some (.bool b)=>some b|_=>none:=by
    unfold yielded;rw[hj];rfl
   simp only at h;split at h
   ·rename_i b M;rw[M]at n;have e:=QS n;have R:a.tmps[g]?=some (.bool b):=by
     cases F:a.tmps[g]? with
     |none=>simp[Nx,F,Go.undef]at e
     |some u=>simp[Nx,F]at e;rw[e]
    have A:Region.wanted o (yielded ops a.tmps)=(b == t):=by
     unfold Region.wanted;rw[I];simp only[Y,R];cases b<;>cases t<;>rfl
    split at h
    ·rename_i y;rw[Ad (by rw[A,y];simp)];exact .inl (mP h1 q s i h G)
    rename_i y;rw[Ae (by rw[A];simpa using y)];obtain⟨x,N,ι,β,H,B,S,T⟩:=i;rw[h1];exact G _ _ _ (Q8 x N H B S (.f8 [] [] rfl (by simp) (by simp)) T) h
   ·rename_i M;rw[M]at n;obtain⟨ws,e,hl,_,_⟩:=pB n;have L:ws=[]:=List.length_eq_zero_iff.1 hl.symm;subst L;have A:Region.wanted o (yielded ops a.tmps)=false:=by
     unfold Region.wanted;rw[I];simp only[Y];cases F:a.tmps[g]? with
     |none=>rfl
     |some u=>simp[Nx,F]at e;rw[e];rfl
    rw[Ae (by rw[A];simp)];obtain⟨x,N,ι,β,H,B,S,T⟩:=i;rw[h1];exact G _ _ _ (Q8 x N H B S (.f8 [] [] rfl (by simp) (by simp)) T) h
   exact h.elim
  cases D
 cases C
end
def c_.looks(o:c_):List Nat:=o.op.uses++(match o.guard with|some (g,_)=>[g]|none=>[])
def Iu(d:Option Nat)(l:List Nat):Bool:=match d with|some d=>!l.contains d|none=>true
def Tn:Option Nat->Option Nat->Bool
 |some a,some b=>a != b|_,_=>true
def QU:Option Nat->Option Nat->Bool
 |some a,some b=>a != b|_,_=>true
def Ma(p q:p_):Bool:=
 !p.clearsBox&&!q.clearsBox&&!p.isCall &&
 (p.isPure||(p.isReadH&&q.isKeep)||p.keptBy q||(p.isLoadB&&QU p.readsBox q.writesBox)||(p.isReadH&&(q.isPure||q.isLoadB||q.isReadH||q.isPush)&&QU p.readsBox q.writesBox)||q.isPure||(q.isLoadB&&p.isPush&&QU q.readsBox p.writesBox)||(p.isSlice&&q.isApp))
theorem ZdN{p q:p_}(h1:p.clearsBox=false)(i:p.isCall=false)(g:q.isPure=true)(b:q.clearsBox=false):Ma p q=true:=by simp[Ma,h1,i,g,b]
theorem ZeC{p q:p_}(h1:p.clearsBox=false)(i:p.isCall=false)(g:p.isPure=true)(b:q.clearsBox=false):Ma p q=true:=by simp[Ma,h1,i,g,b]
def FD(p q:c_):Bool:=Iu p.dst q.looks&&Iu q.dst p.looks&&Tn p.dst q.dst&&(Ma p.op q.op||(p.op.isKeep&&q.op.isMv&&q.guard.isNone))
theorem Zhp(s:List V)(a b:Nat)(v u:V)(h:a≠b):put (put s a v) b u=put (put s b u) a v:=by
 induction s generalizing a b with
 |nil=>rfl
 | cons x r ih=>
   cases a with
   | zero=>cases b with
     |zero=>exact absurd rfl h
     |succ b=>rfl
   | succ a=>cases b with
     |zero=>rfl
     |succ b=>simp only[put];rw[ih a b (by omega)]
def Fo(s:List V)(d:Option Nat)(v:V):List V:=match d with|some d=>put s d v|none=>s
theorem Ni(sl:List V)(bx:List (List V))(hp:Ac)(d:Option Nat)(v:V):St.put ⟨sl,bx,hp⟩ d v=⟨Fo sl d v,bx,hp⟩:=by cases d<;>rfl
theorem cj(s:List V)(a b:Option Nat)(v u:V)(h:Tn a b=true):Fo (Fo s a v) b u=Fo (Fo s b u) a v:=by
 cases a with
 |none=>rfl
 | some a=>cases b with
   |none=>rfl
   |some b=>exact Zhp s a b v u (by simpa [Tn]using h)
theorem LN{l:List Nat}{s:List V}{d:Option Nat}{v:V}(h:Iu d l=true):k_ l s (Fo s d v):=by
 cases d with
 |none=>exact λ_ _=>rfl
 | some d=>
   intro t ht;simp only[Iu,Br,eO,Bn]at h;exact kg s d t v (λe=>h (e▸ht))
theorem k_.symm{l:List Nat}{s b:List V}(h:k_ l s b):k_ l b s:=λt ht=>(h t ht).symm
theorem Xn{d:Option Nat}{a b:List Nat}(h:Iu d (a++b)=true):Iu d a=true:=by
 cases d with
 |none=>rfl
 |some d=>simp[Iu]at h ⊢;exact h.1
theorem XW(b:KP)(f:Bg)(args:List T_)(d:Option Nat)(k:St->Prop)(st:St):AP (.callB b f args) d k st=((args.map (·.ev st.sl)).all V.ok1=true/\Rs st.bx b f (args.map (·.ev st.sl)) st.hp λr h=>k (St.put { st with hp:=h } d r)):=rfl
theorem Jk{o:p_}(b:o.isCall=false)(g:o.clearsBox=false)(d:Option Nat)(k:St->Prop)(sl:List V)(bx:List (List V))(hp:Ac):AP o d k ⟨sl,bx,hp⟩=match Af o ⟨sl,bx,hp⟩with|some (v,bx,hp)=>k ⟨Fo sl d v,bx,hp⟩|none=>False:=by
 have e:∀v bx hp,St.put { sl:=o.clears sl,bx,hp } d v=⟨Fo sl d v,bx,hp⟩:=by
  intro v bx hp;have:o.clears sl=sl:=(by cases o<;>first|rfl|simp[p_.clearsBox]at g);rw[this,Ni]
 cases o<;>first|(simp[p_.isCall]at b;done)|(simp only[AP];split<;>simp_all)
theorem nY {p q:p_} {M R:Option Nat} {k:St->Prop} {st:St} (hp1:Iu M q.uses=true) (hq1:Iu R p.uses=true) (hd:Tn M R=true) (hm:Ma p q=true)
 (h:AP p M (AP q R k) st):AP q R (AP p M k) st:=by
 obtain⟨sl,bx,hp⟩:=st;unfold Ma at hm;simp only[Aj,Br]at hm;obtain⟨⟨⟨m1,m2⟩,m3⟩,t⟩:=hm;rw[Jk m3 m1]at h;split at h
 ·rename_i v L U A;have D:∀u C G,Af p ⟨sl,C,G⟩=some (v,C,G)->AP p M k ⟨Fo sl R u,C,G⟩=k ⟨Fo (Fo sl M v) R u,C,G⟩:=by
   intro u C G h2;rw[Jk m3 m1,bf (LN hq1),h2,cj _ _ _ _ _ hd]
  by_cases I:q.isCall=true
  ·
   cases q<;>simp[p_.isCall]at I;rename_i kp f args;have ea:args.map (·.ev (Fo sl M v))=args.map (·.ev sl):=bB args (LN hp1);by_cases N:p.isReadH=true/\kp= .all
   ·
    obtain⟨N,rfl⟩:=N;obtain⟨rfl,rfl,h3⟩:=QD N A;rw[XW]at h ⊢;rw[ea]at h;obtain⟨h1,Q0,h2,h4⟩:=h;refine⟨h1,Q0,h2,λr h' hq=>?_⟩;obtain⟨Y,k2⟩:=h4 r h' hq;refine⟨Y,?_⟩;simp only[Ni]at Y k2 ⊢;rw[D r _ _ (h3 _ h' Y (λ_ _=>rfl))];exact k2
   by_cases O:p.keptBy (.callB kp f args)=true
   ·
    cases kp<;>simp[p_.keptBy]at O;cases p<;>simp at O;rename_i i c n x;obtain⟨rfl,rfl⟩:=O;obtain⟨rfl,rfl,_⟩:=QD rfl A;rw[XW]at h ⊢;rw[ea]at h;obtain⟨h1,Q0,h2,h4⟩:=h;refine⟨h1,Q0,h2,λr h' hq=>?_⟩;obtain⟨Y,k2⟩:=h4 r h' hq;refine⟨Y,?_⟩;simp only[Ni]at Y k2 ⊢;rw[D r _ _ ?_]
    ·exact k2
    obtain⟨hh,A⟩:=XQ A;have hh':UK (get (A3 L i) c) (x.ev sl)=true:=hh;rw[oD hh'];simp only[Af]at A ⊢;generalize x.ev sl=u at *;cases u<;>simp only[Ci,reduceCtorEq]at A;rename_i l o;obtain⟨cs,J,u,e2,y⟩:=A;cases y;generalize get (A3 L i) c=z at *;cases z<;>simp[UK]at hh';have e1':rd h' l o (n.getD 1)=some cs:=by
     unfold rd at J ⊢;cases hl:U[l]? with
     |none=>rw[hl]at J;cases J
     | some b=>
       rw[Y l _ _ (by rw[hh']) (List.getElem?_eq_some_iff.1 hl).1,hl];rw[hl]at J;exact J
    simp[e1',e2]
   have hr:L=bx/\U=hp/\∀h',Af p ⟨sl,bx,h'⟩=some (v,bx,h'):=by
    simp only[p_.isPure,p_.isPush,p_.isApp,p_.isLoadB.eq_def (.callB kp f args),p_.isReadH.eq_def (.callB kp f args),Bool.or_false,Kj,Bool.and_false,Ce,Aj]at t;rcases t with((t|⟨t,s⟩)|t)|⟨t,_⟩
    ·obtain⟨J,e2,y⟩:=Ow t A;exact⟨J,e2,λh'=>y _ _⟩
    ·exact absurd ⟨t,by cases kp<;>simp[p_.isKeep]at s ⊢⟩ N
    ·exact absurd t O
    cases p<;>simp[p_.isLoadB]at t;obtain⟨J,e2,y⟩:=Oo A;exact⟨J,e2,λh'=>y _ _ rfl⟩
   obtain⟨rfl,rfl,h3⟩:=hr;rw[XW]at h ⊢;rw[ea]at h;refine⟨h.1,?_⟩;have e:(λr h'=>AP p M k (St.put ⟨sl,L,h'⟩ R r))=(λr h'=>k (St.put ⟨Fo sl M v,L,h'⟩ R r)):=by
    funext r h';rw[Ni,Ni,D r _ _ (h3 h')]
   rw[e];exact h.2
  have j:q.isCall=false:=(by simpa using I);rw[Jk j m2]at h;split at h
  ·rename_i u C hpp2 g;rw[bf (LN hp1)]at g;rw[Jk j m2];have F:∀ {bx' Z},Af q ⟨sl,bx,hp⟩=some (u,bx',Z)->Af p ⟨sl,bx',Z⟩=some (v,C,hpp2)->(match Af q ⟨sl,bx,hp⟩with|some (v,bx,hp)=>AP p M k ⟨Fo sl R v,bx,hp⟩|none=>False):=by
    intro bx' Z J e2;rw[J];simp only;rw[Jk m3 m1,bf (LN hq1),e2];simp only;rw[<- cj _ _ _ _ _ hd];exact h
   simp only[Ce,Aj]at t;rcases t with((((((t|⟨t,s⟩)|t)|⟨t,s⟩)|⟨⟨t,s⟩,m7⟩)|t)|⟨⟨t,s⟩,m6⟩)|⟨t,s⟩
   ·obtain⟨rfl,rfl,y⟩:=Ow t A;exact F g (y _ _)
   ·cases q<;>simp[p_.isCall,p_.isKeep]at j s
   ·cases q<;>cases p<;>simp[p_.isCall,p_.keptBy]at j t
   ·cases p<;>simp[p_.isLoadB]at t;rename_i i n x;obtain⟨rfl,rfl,y⟩:=Oo A;refine F g (y _ _ ?_);cases q<;>first
     |(have:=(Ow rfl g).1;rw[this];done)
     |(have:=(QD rfl g).1;rw[this];done)
     |(have:=(Oo g).1;rw[this];done)
     |(refine(TF rfl g).2 i ?_;simp[p_.writesBox];done)
     |(refine(TF rfl g).2 i ?_;intro e;simp only[p_.writesBox,Ap]at e;subst e;simp[p_.readsBox,p_.writesBox,QU]at s;done)
     |(simp[p_.clearsBox]at m2;done)
     |(simp[p_.isCall]at j;done)
     |skip
    ·
     simp only[Af]at g;split at g
     ·split at g
      ·simp only[Ci]at g;obtain⟨_,_,g⟩:=g;cases g;rfl
      cases g
     cases g
    ·
     simp only[Af]at g;split at g
     ·simp only[Ci]at g;obtain⟨⟨_,_⟩,_,g⟩:=g;cases g;rfl
     cases g
   ·obtain⟨rfl,rfl,y⟩:=QD t A;refine F g (y _ _ ?_ λi hi=>?_);case refine_2=>
     rcases s with((s|s)|s)|s
     ·rw[(Ow s g).1]
     ·cases q<;>simp[p_.isLoadB]at s;rw[(Oo g).1]
     ·rw[(QD s g).1]
     refine(TF s g).2 i λe=>?_;rw[hi,e]at m7;simp[QU]at m7
    refine Kept.push ?_;rcases s with((s|s)|s)|s
    ·exact .inl (Ow s g).2.1
    ·cases q<;>simp[p_.isLoadB]at s;exact .inl (Oo g).2.1
    ·exact .inl (QD s g).2.1
    exact(TF s g).1
   ·obtain⟨rfl,rfl,y⟩:=Ow t g;exact F (y _ _) A
   ·cases q<;>simp[p_.isLoadB]at t;rename_i i n x;obtain⟨rfl,rfl,y⟩:=Oo g;refine F (y bx hp ?_) A;refine((TF s A).2 i ?_).symm;intro e;rw[e]at m6;simp[p_.readsBox,QU]at m6
   obtain⟨rfl,rfl,y⟩:=ZeW t A;exact F g (y _ _ (ZfW s g))
  exact h.elim
 exact h.elim
def c_.eff(o:c_)(s:List V):Option p_:=
 match o.guard with
 |none=>some o.op| some (g,want)=>match get s g with
   |.bool b=>if b=want then some o.op else some (.mv (.c (.f8 [])))
   |.f8 []=>some (.mv (.c (.f8 [])))
   |_=>none
theorem QI(o:c_)(k:St->Prop)(st:St):Cx o k st=match o.eff st.sl with|some p=>AP p o.dst k st|none=>False:=by
 unfold Cx c_.eff;cases o.guard with
 |none=>rfl
 | some gw=>
   obtain⟨g,i⟩:=gw;simp only;generalize get st.sl g=u;cases u with
   | bool b=>
     by_cases h:b=i
     ·simp only[Ad h]
     simp only[Ae h];rfl
   |f8 j=>cases j<;>rfl
   |_=>rfl
theorem bQ{o:c_}{s i:List V}(h:k_ o.looks s i):o.eff i=o.eff s:=by
 unfold c_.eff;cases j:o.guard with
 |none=>rfl
 | some gw=>
   obtain⟨g,b⟩:=gw;simp only;rw[h g (by simp[c_.looks,j])]
theorem MT{o:c_}{s:List V}{p:p_}(h:o.eff s=some p):p=o.op\/p= .mv (.c (.f8 [])):=by
 unfold c_.eff at h;split at h
 ·exact .inl (Di h).symm
 split at h
 ·split at h
  ·exact .inl (Di h).symm
  exact .inr (Di h).symm
 ·exact .inr (Di h).symm
 cases h
theorem cG{o:p_}{d:Option Nat}{k g:St->Prop}{st:St}(j:o.clearsBox=false)(h:∀v bx hp,k ⟨Fo st.sl d v,bx,hp⟩=g ⟨Fo st.sl d v,bx,hp⟩):AP o d k st=AP o d g st:=by
 obtain⟨sl,bx,hp⟩:=st;by_cases i:o.isCall=true
 ·cases o<;>simp[p_.isCall]at i;rename_i n f args;simp only[AP];have e:(λr h'=>k (St.put ⟨sl,bx,h'⟩ d r))=(λr h'=>g (St.put ⟨sl,bx,h'⟩ d r)):=by
   funext r h';rw[Ni];exact h r bx h'
  rw[e]
 have b:o.isCall=false:=by simpa using i
 rw[Jk b j,Jk b j];split
 ·exact h _ _ _
 rfl
theorem ZdP {i:KP} {f:Bg} {args:List T_} {x:T_} {b g:Option Nat} {k:St->Prop} {st:St} (u:i= .all) (q:Iu b x.slots=true) (n:Iu g (Yt args)=true) (hd:Tn b g=true)
 (h:AP (.callB i f args) b (AP (.mv x) g k) st):AP (.mv x) g (AP (.callB i f args) b k) st:=by
 subst u;obtain⟨sl,bx,hp⟩:=st;rw[Jk rfl rfl];simp only[Af];rw[XW]at h ⊢;simp only[bB args (LN n)];obtain⟨h1,A,z,y⟩:=h;refine⟨h1,A,z,λr h' t=>?_⟩;obtain⟨s,j⟩:=y r h' t;refine⟨s,?_⟩;simp only[Ni,Jk (o:=.mv x) rfl rfl,Af]at j ⊢;rw[BG (LN q:k_ x.slots sl (Fo sl b r)),cj _ _ _ _ _ hd]at j;exact j
theorem lR{p q:c_}{k:St->Prop}{st:St}(hs:FD p q=true)(h:Cx p (Cx q k) st):Cx q (Cx p k) st:=by
 unfold FD at hs;simp only[Aj,Ce]at hs;obtain⟨⟨⟨h1,z⟩,F⟩,t|⟨⟨t,Y⟩,y⟩⟩:=hs;case inr=>
  rw[QI]at h ⊢;have A:q.eff st.sl=some q.op:=by
   unfold c_.eff;cases D:q.guard with
   |none=>rfl
   |some g=>rw[D]at y;cases y
  have n:∀f4:St,q.eff f4.sl=some q.op:=by
   intro f4;unfold c_.eff;cases D:q.guard with
   |none=>rfl
   |some g=>rw[D]at y;cases y
  have N:∀f4,Cx q k f4=AP q.op q.dst k f4:=λf4=>(by rw[QI,n]);rw[A];simp only;have U:k_ q.op.uses st.sl st.sl:=λ_ _=>rfl;cases i:q.op<;>simp[p_.isMv,i]at Y;rename_i x;have cb:(p_.mv x).clearsBox=false:=rfl;have u:Iu p.dst x.slots=true:=(by have:=Xn h1;rw[i]at this;exact this);cases hp:p.eff st.sl with
  |none=>rw[hp]at h;exact h.elim
  | some p'=>
    rw[hp]at h;simp only at h;rw[i]at N;have Z:Cx q k=AP (.mv x) q.dst k:=funext N;rw[Z]at h;have G:AP (.mv x) q.dst (Cx p k) st=AP (.mv x) q.dst (AP p' p.dst k) st:=
     cG cb λv bx M=>by rw[QI,bQ (LN z)];simp only[hp]
    rw[G];rcases MT hp with rfl|rfl
    ·cases b:p.op<;>simp[p_.isKeep,b]at t;rename_i R f args;cases R<;>simp at t;rw[b]at h;exact ZdP rfl u (by have:=Xn z;rw[b]at this;exact this) F h
    exact nY u (by cases q.dst<;>rfl) F rfl h
 have j:=t;unfold Ma at j;simp only[Aj,Br]at j;obtain⟨⟨⟨L,J⟩,I⟩,m4⟩:=j;rw[QI]at h ⊢;cases hp:p.eff st.sl with
 |none=>rw[hp]at h;exact h.elim
 | some p'=>
   rw[hp]at h;simp only at h;have O:p'.clearsBox=false:=(by rcases MT hp with rfl|rfl<;>first|exact L|rfl);have e1:AP p' p.dst (Cx q k) st=AP p' p.dst (λf4=>match q.eff st.sl with|some q'=>AP q' q.dst k f4|none=>False) st:=
    cG O λv bx hp=>by rw[QI,bQ (LN h1)]
   rw[e1]at h;cases s:q.eff st.sl with
   | none=>
     rw[s]at h;simp only at h;have C:p'.isCall=false:=(by rcases MT hp with rfl|rfl<;>first|exact I|rfl);obtain⟨sl,bx,M⟩:=st;rw[Jk C O]at h;split at h<;>exact h
   | some q'=>
     rw[s]at h;simp only at h ⊢;have cq:q'.clearsBox=false:=(by rcases MT s with rfl|rfl<;>first|exact J|rfl);have G:AP q' q.dst (Cx p k) st=AP q' q.dst (AP p' p.dst k) st:=
      cG cq λv bx M=>by rw[QI,bQ (LN z)];simp only[hp]
     rw[G];refine nY (k:=k) ?_ ?_ F ?_ h
     ·rcases MT s with rfl|rfl
      ·exact Xn h1
      cases p.dst<;>rfl
     ·rcases MT hp with rfl|rfl
      ·exact Xn z
      cases q.dst<;>rfl
     rcases MT hp with rfl|rfl<;>rcases MT s with rfl|rfl
     ·exact t
     ·exact ZdN L I rfl rfl
     ·exact ZeC rfl rfl rfl J
     rfl
inductive Mkr where|p|s (n:Nat)
def Mkr.v:Mkr->Nat->V
 |.p,m=>.ptr m 0|.s n,m=>.slice m 0 n
theorem Mkr.inj{a b:Mkr}{m n:Nat}(h:a.v m=b.v n):m=n:=by
 cases a<;>cases b<;>simp[Mkr.v]at h
 ·exact h
 exact h.1
def p_.cst:p_->Option (Mkr×Blk)
 |.allocH zs=>if zs.all V.flat then some (.p,⟨.own,1,zs⟩)else none|.d4 w n zs ps=>if n != 0&&decide (0<w)&&zs.length == n*w&&zs.all V.flat&&(T7 ps).isEmpty then (match D4 [] zs ps with
  |some cs=>if cs.all V.flat then some (.s n,⟨.own,w,cs⟩)else none
  |none=>none)else none
 |_=>none
def c_.cst(o:c_):Option (Mkr×Blk):=match o.guard with|none=>o.op.cst|some _=>none
theorem ZfK{v:V}(h:v.flat=true):v.cell=true:=by cases v<;>first|rfl|cases h
theorem lY{l:List V}(h:l.all V.flat=true):l.all V.cell=true:=by
 rw[DE]at h ⊢;exact λv b=>ZfK (h v b)
theorem cE{o:p_}{i:Mkr}{b:Blk}(h:o.cst=some (i,b)):(∀sl bx hp,Af o ⟨sl,bx,hp⟩=some (i.v hp.length,bx,hp++[b]))/\b.cs.all V.flat=true/\b.k= .own/\0<b.w/\o.isCall=false/\o.clearsBox=false:=by
 cases o<;>simp only[p_.cst,reduceCtorEq]at h;case allocH zs=>
  split at h
  ·rename_i g;cases h;refine⟨λsl bx hp=>?_,g,rfl,Nat.one_pos,rfl,rfl⟩;simp only[Af,Ad (lY g)];rfl
  cases h
 case d4 w n zs ps=>
  split at h
  ·rename_i j;simp only[Aj,TV,Hu,Ay,Bb,List.isEmpty_iff]at j;obtain⟨⟨⟨⟨y,c2⟩,x⟩,u⟩,s⟩:=j;split at h
   ·rename_i cs q;split at h
    ·rename_i g;cases h;refine⟨λsl bx hp=>?_,g,rfl,c2,rfl,rfl⟩;have:D4 sl zs ps=some cs:=(by rw[<- q];exact W9 ps zs (by rw[s];intro t ht;cases ht));simp only[Af,Ae y,Ad (And.intro (lY u) (And.intro x c2)),this];rfl
    cases h
   cases h
  cases h
theorem Rel.mono2{ι ι':AL}{σ σ':Ac}{β:Nat->Nat}{v:V}{x:Value}(k:∀l Y_,σ[l]?=some Y_->0<Y_.w->ι' l=ι l/\∃D,σ'[l]?=some D/\D.w=Y_.w)(h:Rel ι σ β v x):Rel ι' σ' β v x:=by
 induction h with
 |undef x=>exact .undef x
 |bool b=>exact .bool b
 |int k n=>exact .int k n
 |str s=>exact .str s
 |X_ a=>exact .X_ a
 | slice l o n c Y_ h hn hc g=>
   obtain⟨u,q,h1,j⟩:=k l Y_ h g;have:=Rel.slice (ι:=ι') (σ:=σ') (β:=β) l o n c q h1 hn (by rw[u,j];exact hc) (by rw[j];exact g);rwa [u]at this
 | sliceEnd l o Y_ h a g=>
   obtain⟨_,q,h1,j⟩:=k l Y_ h g;exact .sliceEnd l o q h1 a (by rw[j];exact g)
 |box i o=>exact .box i o
 | ptr l o Y_ h g=>
   obtain⟨u,q,h1,j⟩:=k l Y_ h g;have:=Rel.ptr (ι:=ι') (σ:=σ') (β:=β) l o q h1 (by rw[j];exact g);rwa [u]at this
 |nilIfc=>exact .nilIfc
 |ifc t v=>exact .ifc t v
 |agg cs ws A C h y=>exact .agg cs ws A C λi v w z g=>y i v w z g
 |f8 cs ws A C h y=>exact .f8 cs ws A C λi v w z g=>y i v w z g
theorem sf{ι ι' ι2:AL}{k h1 y:Ac}{β:Nat->Nat}{v:V}{x x0:Value}(C:∀l Y_,k[l]?=some Y_->0<Y_.w->ι2 l=ι' l/\h1[l]?=some Y_/\y[l]?=some Y_)(j:v.cell=true)(r:Rel ι' h1 β v x)(u:Rel ι k β v x0):Rel ι2 y β v x:=by
 cases v with
 | slice l o n=>
   obtain⟨q,t,_⟩:=Gx u;have g:=MN u t;obtain⟨e,F,z⟩:=C l q t g;obtain⟨I,D,j⟩:=Gx r;rw[F]at D;cases D;rcases j with⟨c,rfl,G,c2⟩|⟨rfl,a,rfl⟩
   ·have:=Rel.slice (ι:=ι2) (σ:=y) (β:=β) l o n c q z G (by rw[e];exact c2) g;rwa [e]at this
   exact .sliceEnd l o q z a g
 | ptr l o=>
   obtain⟨⟨q,t⟩,_⟩:=Ju u;have g:=Xt u t;obtain⟨e,F,z⟩:=C l q t g;have A:=(Ju r).2;have:=Rel.ptr (ι:=ι2) (σ:=y) (β:=β) l o q z g;rw[A,<- e];exact this
 |undef=>cases j
 |box i o=>cases j
 |agg cs=>cases j
 |f8 cs=>cases j
 |bool b=>cases r;exact .bool _
 |int k n=>cases r;exact .int _ _
 |str s=>cases r;exact .str _
 |X_=>cases r;exact .X_ _
 |ifc b=>cases r<;>first|exact .nilIfc|exact .ifc _ _
theorem flat2{ι ι2:AL}{h1 g:Ac}{β:Nat->Nat}{v:V}{x:Value}(b:v.flat=true)(r:Rel ι h1 β v x):Rel ι2 g β v x:=by
 cases v<;>first|(cases b;done)|(cases r<;>first|exact .bool _|exact .int _ _|exact .str _|exact .X_ _|exact .nilIfc|exact .ifc _ _)
section
variable {P:Program} {ι0:AL} {σ0:Ac} {w0:World} {Φ:Phm} {st:St} {a:Act} {w:World} {Q:Exit->Act->World->Prop}
theorem Zc2 {o:Oper} {ao:p_} {mk:Mkr} {b:Blk} {n:Nat} {d:Option Nat} {K:Act->World->Prop} (hc:ao.cst=some (mk,b)) (A:Fq P o.op ao=true) (hn:Φ n=some b) (hσ:σ0.length<=n) (hrep:Dc ι0 σ0 w0 Φ st a w) (hd:o.dst=d)
 (hK:∀a' w',Dc ι0 σ0 w0 (λm=>if m=n then none else Φ m) (st.put d (mk.v n)) a' w'->K a' w'):o.wp P a w K Q:=by
 obtain⟨hdf,hH,ι,β,H,B,S,T⟩:=hrep;obtain⟨c1,c2,c3,c4,_,_⟩:=cE hc;generalize U:kill Φ st.hp=k at H B S T;have hlen:k.length=st.hp.length:=by rw[<- U,Ev]
 have hnl:n<k.length:=by rw[hlen];exact hH.lt hn
 have hkn:k[n]?=some NM:=by rw[<- U,GA,hH n b hn,hn];rfl
 obtain⟨nx,x,w',ι',β',hrun,hnx,H',_,_,hv,T'⟩:=n9 (st:=⟨st.sl,[],k⟩) (w0:=w) (β:=β) H ⟨by simp,by simp,by simp,by simp⟩ S (.refl ι k w) A (c1 st.sl [] k);have hcl:ao.clears st.sl=st.sl:=by cases ao<;>first|rfl|cases hc
 have Y:∀l,l<k.length->(k++[b])[l]?=k[l]?:=λl q=>Bp q;have h1m:(k++[b])[k.length]?=some b:=by simp
 have D:(k.set n b)[n]?=some b:=by simp[hnl]
 have J:∀l,l≠n->(k.set n b)[l]?=k[l]?:=λl q=>by rw[Hw,Ae (Ic q)]
 have t:kill (λm=>if m=n then none else Φ m) st.hp=k.set n b:=by
  apply JB;intro l;by_cases q:l=n
  ·subst q;rw[GA,D,hH _ b hn];simp
  rw[J l q,<- U,GA,GA,Ae q]
 have hH2:Has (λm=>if m=n then none else Φ m) st.hp:=λl c e=>by
  simp only at e;split at e
  ·cases e
  exact hH l c e
 generalize hι:(λl=>if l=n then ι' k.length else ι' l)=ι2;have ιn:ι2 n=ι' k.length:=by rw[<- hι];simp
 have ιl:∀l,l≠n->ι2 l=ι' l:=λl q=>by rw[<- hι];simp[q]
 have N:∀l Y_,k[l]?=some Y_->0<Y_.w->l≠n:=λl Y_ g O e=>by
  subst e;rw[hkn]at g;cases g;simp[NM]at O
 have hg:∀l Y_,k[l]?=some Y_->0<Y_.w->ι2 l=ι' l/\(k++[b])[l]?=some Y_/\(k.set n b)[l]?=some Y_:=λl Y_ g O=>
  ⟨ιl l (N l Y_ g O),by rw[Y l (BB g)];exact g,by rw[J l (N l Y_ g O)];exact g⟩
 have hm:∀l Y_,k[l]?=some Y_->0<Y_.w->ι2 l=ι l/\∃G,(k.set n b)[l]?=some G/\G.w=Y_.w:=λl Y_ g O=>
  ⟨by rw[ιl l (N l Y_ g O),T'.keeps.place l Y_ g],Y_,(hg l Y_ g O).2.2,rfl⟩
 have z:∀l Y_,(k.set n b)[l]?=some Y_->∃j,(k++[b])[j]?=some Y_/\ι2 l=ι' j/\((l=n/\j=k.length/\Y_=b)\/(l≠n/\j=l/\k[l]?=some Y_)):=λl Y_ g=>by
  by_cases q:l=n
  ·subst q;rw[D]at g;cases g;exact⟨k.length,h1m,ιn,.inl ⟨rfl,rfl,rfl⟩⟩
  rw[J l q]at g;exact⟨l,by rw[Y l (BB g)];exact g,ιl l q,.inr ⟨q,rfl,g⟩⟩
 have H2:HRel ι2 (k.set n b) w':=by
  refine⟨λl Y_ q hkd i v R=>?_,λl Y_ q A=>?_,λl l' Y_ G M q hl' A hk'=>?_,λl Y_ q A=>?_⟩
  ·obtain⟨j,C,F,u⟩:=z l Y_ q;obtain⟨Z,x,q2,q3⟩:=H'.cells j Y_ C hkd i v R;refine⟨Z,x,by rw[F];exact q2,λβ=>?_⟩;rcases u with⟨_,_,rfl⟩|⟨_,_,g⟩
   ·exact flat2 (DE.1 c2 v (Il R)) (q3 β)
   obtain⟨_,x0,_,q4⟩:=H.cells l Y_ g hkd i v R;exact sf hg Z (q3 β) (q4 β)
  ·obtain⟨j,C,F,_⟩:=z l Y_ q;rw[F];exact H'.own j Y_ C A
  ·obtain⟨j,C,F,u⟩:=z l Y_ q;obtain⟨j',hj',ej',I⟩:=z l' G hl';rw[F,ej'];refine H'.apart j j' Y_ G (λe=>?_) C hj' A hk';rcases u with⟨a1,a2,_⟩|⟨a1,a2,a3⟩<;>rcases I with⟨b1,b2,_⟩|⟨b1,b2,b3⟩
   ·exact M (by rw[a1,b1])
   ·have:=BB b3;omega
   ·have:=BB a3;omega
   exact M (by omega)
  obtain⟨j,C,F,_⟩:=z l Y_ q;rw[F];exact H'.there j Y_ C A
 have B':=lL B T';have B2:BRel ι2 (k.set n b) β st.bx w0 w':=by
  refine⟨λi cs hi N=>?_,B'.new,B'.apart,λi cs l Y_ hi N q A=>?_⟩
  ·obtain⟨arr,e,p1,p2,p3⟩:=B'.cells i cs hi N;refine⟨arr,e,p1,p2,λj v hv=>?_⟩;obtain⟨Z,x,q2,q3⟩:=p3 j v hv;obtain⟨_,_,_,_,p4⟩:=B.cells i cs hi N;obtain⟨_,x0,_,q4⟩:=p4 j v hv;exact⟨Z,x,q2,λβ'=>sf hg Z (q3 β') (q4 β')⟩
  obtain⟨j,C,F,_⟩:=z l Y_ q;rw[F];exact B'.heap i cs j Y_ hi N C A
 have S2:SRel ι2 (k.set n b) β st.sl a.tmps:=⟨S.1,λi=>(S.2 i).mono2 hm⟩;have L:=T.trans T';have y:∀l Y_,σ0[l]?=some Y_->l≠n/\(k.set n b)[l]?=(k++[b])[l]?:=λl Y_ g=>by
  have q:l≠n:=(by have:=BB g;omega);have hlk:l<k.length:=(by have:=BB g;omega);exact⟨q,by rw[J l q,Y l hlk]⟩
 have T3:Step ι0 σ0 w0 ι2 (k.set n b) w':={
  keeps:=⟨λl Y_ g=>by rw[ιl l (y l Y_ g).1];exact L.keeps.place l Y_ g,λl Y_ g=>by rw[(y l Y_ g).2];exact L.keeps.width l Y_ g⟩
  kinds:=λl Y_ G g hb'=>L.kinds l Y_ G g (by rw[<- (y l Y_ g).2];exact hb')
  fresh:=λl G q g A=>by
   obtain⟨j,C,F,u⟩:=z l G g;rw[F];exact L.fresh j G (by rcases u with⟨_,h,_⟩|⟨_,h,_⟩<;>omega) C A
  frame:=L.frame,size:=L.size,os:=L.os,output:=L.output,tape:=L.tape }
 have hv2:Rel ι2 (k.set n b) β (mk.v n) x:=by
  cases mk with
  | p=>
    have h2':=(Ju (show Rel ι' (k++[b]) β' (.ptr k.length 0) x from hv)).2;have:=Rel.ptr (ι:=ι2) (σ:=k.set n b) (β:=β) n 0 b D c4;rw[h2',<- ιn];exact this
  | s c0=>
    have hv':Rel ι' (k++[b]) β' (.slice k.length 0 c0) x:=hv;obtain⟨b1,g3,hcc⟩:=Gx hv';rw[h1m]at g3;cases g3;rcases hcc with⟨c,rfl,e1,e2⟩|⟨rfl,a,rfl⟩
    ·have:=Rel.slice (ι:=ι2) (σ:=k.set n b) (β:=β) n 0 c0 c b D e1 (by rw[ιn];exact e2) c4;rwa [ιn]at this
    exact .sliceEnd n 0 b D a c4
 subst hd;unfold Oper.wp;rw[hrun];have fin:Dc ι0 σ0 w0 (λm=>if m=n then none else Φ m) (St.put ⟨st.sl,st.bx,st.hp⟩ o.dst (mk.v n)) (a.put o.dst x) w':=
  Q8 hdf hH2 (by rw[t];exact H2) (by rw[t];exact B2) (by rw[t];exact S2) (by rw[t];exact hv2) (by rw[t];exact T3)
 rcases hnx with rfl|⟨rfl,rfl⟩
 ·exact hK _ _ fin
 exact hK _ _ fin
theorem Zfw(n:Dc ι0 σ0 w0 Φ st a w)(b:Blk):Dc ι0 σ0 w0 (λm=>if m=st.hp.length then some b else Φ m) ⟨st.sl,st.bx,st.hp++[b]⟩ a w:=by
 obtain⟨u,C,ι,β,H,B,S,T⟩:=n;have q:kill (λm=>if m=st.hp.length then some b else Φ m) (st.hp++[b])=kill Φ st.hp++[NM]:=by
  apply JB;intro l;rw[GA];rcases Nat.lt_trichotomy l st.hp.length with g|g|g
  ·rw[Bp g,Bp (by rw[Ev];exact g),GA,Ae (by omega)]
  ·subst g;rw[Dj (BN _),Dj (by rw[Ev];exact BN _)];simp[Ev]
  rw[BR (by simp;omega),BR (by simp[Ev];omega)];rfl
 have y:Has (λm=>if m=st.hp.length then some b else Φ m) (st.hp++[b]):=λl c e=>by
  simp only at e;split at e
  ·rename_i g;cases e;subst g;simp
  rw[Bp (C.lt e)];exact C l c e
 have s:Keeps ι (kill Φ st.hp) ι (kill Φ st.hp++[NM]):=⟨λ_ _ _=>rfl,λl c h=>⟨c,by rw[Bp (BB h)];exact h,rfl⟩⟩;have j:∀ {l:Nat} {c:Blk},(kill Φ st.hp++[NM])[l]?=some c->c.k≠.dead->(kill Φ st.hp)[l]?=some c:=λh hd=>by
  rcases GB h with⟨_,h⟩|⟨_,rfl⟩
  ·exact h
  exact absurd rfl hd
 refine⟨u,y,ι,β,?_,?_,?_,?_⟩
 ·rw[q];refine⟨λl c g hd i v G=>?_,λl c g hd=>H.own l c (j g (by rw[hd];decide)) hd,λl l' c c' z g t hd f_=>H.apart l l' c c' z (j g (by rw[hd];decide)) (j t f_) hd f_,λl c g hd=>H.there l c (j g hd) hd⟩;obtain⟨A,x,F,D⟩:=H.cells l c (j g hd) hd i v G;exact⟨A,x,F,λβ=>(D β).cellMono s A⟩
 ·rw[q];exact B.mono s (λ_ _ _ _=>rfl) (BN _) λi cs l c hi z g hd=>B.heap i cs l c hi z (j g hd) hd
 ·rw[q];exact S.mono s
 rw[q];refine T.trans { Step.refl ι (kill Φ st.hp) w with keeps:=s,kinds:=λl c c' h h'=>.inl ?_,fresh:=λl c g h hd=>?_ }
 ·rw[Bp (BB h),h]at h';cases h';rfl
 have:=BB (j h hd);omega
theorem Zg8(b:Dc ι0 σ0 w0 Φ st a w):σ0.length<=st.hp.length:=by
 obtain⟨_,_,ι,β,H,B,S,T⟩:=b;rcases Bz st.hp.length σ0.length with h|h
 ·obtain⟨Y_,g⟩:=QV h;obtain⟨i,h1,_⟩:=T.keeps.width _ Y_ g;have:=BB h1;rw[Ev]at this;omega
 exact h
def NJ:Phm->Nat->List Blk->Phm
 |Φ,_,[]=>Φ|Φ,n,b::r=>NJ (λm=>if m=n then some b else Φ m) (n+1) r
theorem ml:∀(g:List Blk) {Φ:Phm} {st:St},Dc ι0 σ0 w0 Φ st a w->Dc ι0 σ0 w0 (NJ Φ st.hp.length g) ⟨st.sl,st.bx,st.hp++g⟩ a w
 |[],Φ,st,h=>by simpa [NJ]using h
 | b::r,Φ,st,h=>by
   have:=ml r (Zfw h b);simpa [NJ]using this
end
def Mr(o:c_)(v:V):c_:={ o with op:=.mv (.c v) }
def Cu:List c_->Nat->List c_
 |[],_=>[]| o::r,n=>match o.cst with
   |some (mk,_)=>Mr o (mk.v n)::Cu r (n+1)
   |none=>o::r
def GP:List c_->List Blk
 |[]=>[]| o::r=>match o.cst with
   |some (_,b)=>b::GP r
   |none=>[]
def FM:List c_->Nat->c_->Nat->Blk->Prop
 |[],_,_,_,_=>False| o::r,n,ao,m,b=>match o.cst with
   |some (mk,b0)=>(ao=Mr o (mk.v n)/\m=n/\b=b0)\/FM r (n+1) ao m b
   |none=>False
theorem bJ{k:St->Prop}{bx:List (List V)}:∀(l:List c_) (sl:List V) (h:Ac),BS l k ⟨sl,bx,h⟩->BS (Cu l h.length) k ⟨sl,bx,h++GP l⟩
 |[],sl,h,e=>by simpa [Cu,GP]using e
 | o :: r,sl,h,e=>by
   unfold Cu GP;cases i:o.cst with
   |none=>simpa using e
   | some p=>
     obtain⟨j,b⟩:=p;have g:o.guard=none/\o.op.cst=some (j,b):=by
      unfold c_.cst at i;split at i
      ·rename_i g;exact⟨g,i⟩
      cases i
     obtain⟨s,_,_,_,q,n⟩:=cE g.2;simp only;unfold BS Cx at e;rw[g.1]at e;simp only at e;rw[Jk q n,s]at e;simp only at e;have:=bJ r _ _ e;rw[Cj]at this;unfold BS Cx Mr;simp only[g.1,AP,Af,p_.clears,T_.ev,Ni];simpa using this
theorem OU:∀ {l:List c_} {n:Nat} {i:c_} {m:Nat} {b:Blk},FM l n i m b->i∈Cu l n/\n<=m/\∃o∈l,∃g,o.cst=some (g,b)/\i=Mr o (g.v m)
 |[],_,_,_,_,h=>h.elim
 | o :: r,n,i,m,b,h=>by
   unfold FM at h;unfold Cu;cases j:o.cst with
   |none=>rw[j]at h;exact h.elim
   | some p=>
     obtain⟨g,u⟩:=p;rw[j]at h;simp only at h ⊢;rcases h with⟨rfl,rfl,rfl⟩|h
     ·exact⟨by simp,BN _,o,by simp,g,j,rfl⟩
     obtain⟨h1,t,o',s,q⟩:=OU h;exact⟨by simp[h1],by omega,o',by simp[s],q⟩
theorem oU:∀ {l:List c_} {n:Nat} {j g:c_} {m:Nat} {b i:Blk},FM l n j m b->FM l n g m i->j=g/\b=i
 |[],_,_,_,_,_,_,h,_=>h.elim
 | o :: r,n,j,g,m,b,i,h,h'=>by
   unfold FM at h h';cases q:o.cst with
   |none=>rw[q]at h;exact h.elim
   | some p=>
     obtain⟨s,t⟩:=p;rw[q]at h h';simp only at h h';rcases h with⟨rfl,rfl,rfl⟩|h
     ·rcases h' with⟨rfl,_,rfl⟩|h'
      ·exact⟨rfl,rfl⟩
      have:=(OU h').2.1;omega
     rcases h' with⟨rfl,rfl,rfl⟩|h'
     ·have:=(OU h).2.1;omega
     exact oU h h'
theorem ZiE{l:List c_}{n:Nat}{i:c_}{m g:Nat}{b s:Blk}(h:FM l n i m b)(h':FM l n i g s):m=g:=by
 obtain⟨_,_,o,_,t,_,e⟩:=OU h;obtain⟨_,_,o',_,j,_,q⟩:=OU h';rw[q]at e;have:=congrArg c_.op e;simp only[Mr,p_.mv.injEq,T_.c.injEq]at this;exact(Mkr.inj this).symm
theorem pK:∀ {l:List c_} {n:Nat} {g:c_},g∈Cu l n->(∃m b,FM l n g m b)\/g∈l
 |[],_,_,h=>by simp[Cu]at h
 | o :: r,n,g,h=>by
   unfold Cu at h;unfold FM;cases i:o.cst with
   |none=>rw[i]at h;exact .inr h
   | some p=>
     obtain⟨q,j⟩:=p;rw[i]at h;simp only[CE]at h ⊢;rcases h with rfl|h
     ·exact .inl ⟨n,j,.inl ⟨rfl,rfl,rfl⟩⟩
     rcases pK h with⟨m,b,h⟩|h
     ·exact .inl ⟨m,b,.inr h⟩
     exact .inr (.inr h)
theorem pW:∀(l:List c_) (n:Nat) (Φ:Phm),(∀m b,Φ m=some b->m<n)->∀m b,NJ Φ n (GP l) m=some b↔Φ m=some b\/∃g∈Cu l n,FM l n g m b
 |[],n,Φ,_,m,b=>by simp[GP,NJ,Cu]
 | o :: r,n,Φ,hΦ,m,b=>by
   unfold GP Cu FM;cases j:o.cst with
   |none=>simp[NJ]
   | some p=>
     obtain⟨i,q⟩:=p;simp only[NJ];rw[pW r (n+1) _ (λm b h=>by
      split at h
      ·omega
      have:=hΦ m b h;omega) m b]
     constructor
     ·rintro(h|⟨g,h1,h2⟩)
      ·split at h
       ·rename_i hm;cases h;exact .inr ⟨_,by simp,.inl ⟨rfl,hm,rfl⟩⟩
       exact .inl h
      exact .inr ⟨g,by simp[h1],.inr h2⟩
     rintro(h|⟨g,h1,⟨rfl,rfl,rfl⟩|h2⟩)
     ·left;have:=hΦ m b h;rw[Ae (by omega)];exact h
     ·left;simp
     exact .inr ⟨g,(OU h2).1,h2⟩
def Eg(o:c_):c_:=match o.op with
 |.mv (.c _)=>Mr o .undef|_=>o
theorem J7(o:c_):(Eg o).id=o.id/\(Eg o).anc=o.anc/\(Eg o).dst=o.dst/\(Eg o).guard=o.guard:=by
 unfold Eg;split<;>exact⟨rfl,rfl,rfl,rfl⟩
theorem TM:∀(l:List c_) (n b:Nat),(Cu l n).map Eg=(Cu l b).map Eg
 |[],_,_=>rfl
 | o :: r,n,b=>by
   unfold Cu;cases o.cst with
   |none=>rfl
   | some p=>
     simp only[Cm,TM r (n+1) (b+1)];rfl
theorem dj:∀(l:List c_) (n:Nat),(Cu l n).map (·.id)=l.map (·.id)/\(Cu l n).length=l.length
 |[],_=>⟨rfl,rfl⟩
 | o :: r,n=>by
   unfold Cu;cases o.cst with
   |none=>exact⟨rfl,rfl⟩
   | some p=>
     obtain⟨h1,b⟩:=dj r (n+1);exact⟨by simp only[Cm,h1];rfl,by simp[b]⟩
theorem Zje(p q:c_):FD (Eg p) (Eg q)=FD p q:=by
 have h1:∀q,FD (Eg p) q=FD p q:=by
  intro q;unfold Eg;split
  ·rename_i v b;obtain⟨i,n,g,j,pa⟩:=p;simp only at b;subst b;rfl
  rfl
 rw[h1];unfold Eg;split
 ·rename_i v b;obtain⟨i,n,g,j,pa⟩:=q;simp only at b;subst b;rfl
 rfl
end
end Go.Ag
