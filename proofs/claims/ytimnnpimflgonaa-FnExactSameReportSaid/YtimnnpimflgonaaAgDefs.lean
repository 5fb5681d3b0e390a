/-
  AN ABSTRACT SEMANTICS: the definitions. Values, a heap of blocks (read only, owned, dead), a frame of slots and boxes; operations, code in continuation-passing form.
  Its soundness with respect to the model is proved in the texts AgRel, AgOps, AgCode.
-/
import GoSem.Core.View
namespace Go.Ag

/-- An abstract value. -/
inductive V where
  | undef
  | bool (b : Bool)
  | int (k : IntKind) (n : Int)
  | str (s : List UInt8)
  | nils
  | slice (l o n : Nat)
  | box (i o : Nat)
  | ptr (l o : Nat)
  | ifc (nil : Bool)
  | agg (cs : List V)
  | tup (vs : List V)
  deriving Inhabited

inductive BK where
  | ro | own | dead
  deriving DecidableEq

/-- A block of the abstract heap: its kind, how many cells one element has, its cells. -/
structure Blk where
  k : BK
  w : Nat
  cs : List V

abbrev Heap := List Blk

/-- The state of a frame. -/
structure St where
  sl : List V
  bx : List (List V)
  hp : Heap

/-- What a call does: the arguments, the heap, what is to hold behind it. -/
abbrev CallSem := List V → Heap → (V → Heap → Prop) → Prop

inductive Opnd where
  | t (n : Nat)
  | c (v : V)

inductive AOp where
  | mv (x : Opnd)
  | nilck (x : Opnd)
  | pick (c a b : Opnd)
  | allocB (i : Nat) (zs : List V)
  | boxB (i n : Nat) (x : Opnd)
  | allocH (zs : List V)
  | boxH (n : Nat) (x : Opnd)
  | build (zs : List V) (ps : List (Nat × Nat × Opnd))
  | mkSlice (w : Nat) (z : List V) (len : Opnd)
  | litSlice (w n : Nat) (zs : List V) (ps : List (Nat × Nat × Opnd))
  | loadB (i : Nat) (n : Option Nat) (a : Opnd)
  | loadH (n : Option Nat) (a : Opnd)
  | storeB (i n : Nat) (a x : Opnd)
  | storeH (n : Nat) (a x : Opnd)
  | bin (op : BinOp) (x y : Opnd)
  | eqB (neg : Bool) (x y : Opnd)
  | eqN (neg : Bool) (x y : Opnd)
  | eqA (n : Nat) (neg : Bool) (x y : Opnd)
  | un (op : UnOp) (x : Opnd)
  | conv (k : IntKind) (x : Opnd)
  | bstr (x : Opnd)
  | slice (w : Nat) (x : Opnd) (lo hi : Option Opnd)
  | substr (x : Opnd) (lo hi : Option Opnd)
  | fieldA (off : Nat) (a : Opnd)
  | field (off : Nat) (n : Option Nat) (x : Opnd)
  | indexA (w : Nat) (x i : Opnd)
  | index (x i : Opnd)
  | len (x : Opnd)
  | lenT (x : Opnd)
  | app (w : Nat) (x y : Opnd)
  | minI (x y : Opnd)
  | maxI (x y : Opnd)
  | extract (x : Opnd) (i : Nat)
  | call (f : CallSem) (args : List Opnd)

/-- An operation with its number in the region, its slot, its guard. -/
structure AOper where
  id : Nat
  dst : Option Nat
  op : AOp
  guard : Option (Nat × Bool)      -- the guard's SLOT
  anc : List Nat      -- the operations that come before it whatever the order (in a region that draws its order)

inductive ACode where
  | skip
  | region (ops : List AOper)
  | seq (a b : ACode)
  | cond (c : Opnd) (a b : ACode)
  | block (id : Nat) (a : ACode)
  | loop (live : List Nat) (a : ACode)
  | exit (id : Nat)
  | ret

inductive AExit where
  | normal
  | exit (id : Nat)
  | ret

inductive ARes where
  | tmp (t : Nat)
  | cell (t : Nat) (n : Option Nat)

structure AFun where
  nparams : Nat
  nslots : Nat
  nbox : Nat
  pure : Bool
  res : List ARes
  body : ACode

/-! ### Lists -/

def get : List V → Nat → V
  | [], _ => .undef
  | x :: _, 0 => x
  | _ :: r, n + 1 => get r n
def put : List V → Nat → V → List V
  | [], _, _ => []
  | _ :: r, 0, v => v :: r
  | x :: r, n + 1, v => x :: put r n v
def getB : List (List V) → Nat → List V
  | [], _ => []
  | x :: _, 0 => x
  | _ :: r, n + 1 => getB r n
def putB : List (List V) → Nat → List V → List (List V)
  | [], _, _ => []
  | _ :: r, 0, v => v :: r
  | x :: r, n + 1, v => x :: putB r n v
/-- Cells from a place on are written. -/
def splice : List V → Nat → List V → List V
  | cs, 0, [] => cs
  | [], 0, _ :: _ => []
  | _ :: r, 0, v :: vs => v :: splice r 0 vs
  | [], _ + 1, _ => []
  | c :: r, n + 1, vs => c :: splice r n vs

def V.cells : V → List V
  | .agg cs => cs
  | v => [v]

/-- A value that may lie in one cell of memory: no address of a box, nothing of several cells. -/
def V.cell : V → Bool
  | .bool _ | .int .. | .str _ | .nils | .slice .. | .ptr .. | .ifc _ => true
  | _ => false

/-- Nothing in it refers to memory. -/
def V.flat : V → Bool
  | .bool _ | .int .. | .str _ | .nils | .ifc _ => true
  | _ => false
def V.flat1 : V → Bool
  | .agg cs => cs.all V.flat
  | v => v.flat
def V.flat2 : V → Bool
  | .tup vs => vs.all V.flat1
  | v => v.flat1

def V.ok1 : V → Bool
  | .agg cs => cs.all V.cell
  | v => v.cell

def Opnd.ev (s : List V) : Opnd → V
  | .t n => get s n
  | .c v => v

def V.isBox (i : Nat) : V → Bool
  | .box j _ => i == j
  | _ => false
/-- Stale addresses of a box are forgotten. -/
def clearBox (i : Nat) : List V → List V
  | [] => []
  | v :: r => (if v.isBox i then .undef else v) :: clearBox i r
/-- Only these slots are kept. -/
def keep (live : List Nat) : Nat → List V → List V
  | _, [] => []
  | n, v :: r => (if live.contains n then v else .undef) :: keep live (n + 1) r

def St.put (st : St) (d : Option Nat) (v : V) : St :=
  match d with
  | none => st
  | some d => { st with sl := Ag.put st.sl d v }

/-! ### The heap -/

def rd (h : Heap) (l o n : Nat) : Option (List V) :=
  match h[l]? with
  | some b => if b.k ≠ .dead ∧ o + n ≤ b.cs.length then some ((b.cs.drop o).take n) else none
  | none => none

def wr (h : Heap) (l o : Nat) (vs : List V) : Option Heap :=
  match h[l]? with
  | some b => if b.k = .own ∧ o + vs.length ≤ b.cs.length then some (h.set l { b with cs := splice b.cs o vs }) else none
  | none => none

/-- How many bytes a block may have at the most, for an append or a make (a bound far below the model's own). -/
def roomy (n : Nat) : Prop := n ≤ 2 ^ 40
instance (n : Nat) : Decidable (roomy n) := inferInstanceAs (Decidable (n ≤ 2 ^ 40))

def widthOf (h : Heap) (l : Nat) : Option Nat :=
  match h[l]? with
  | some b => some b.w
  | none => none

/-- The cells of what is appended, and how many elements that is. -/
def srcCells (h : Heap) (w : Nat) : V → Option (List V × Nat)
  | .nils => some ([], 0)
  | .slice l o n => (rd h l o (n * w)).map fun cs => (cs, n)
  | .str s => if w = 1 then some (s.map fun b => .int .u8 b.toNat, s.length) else none
  | _ => none

/-- 'append': the source block is dead behind it. -/
def app (h : Heap) (w : Nat) (x y : V) : Option (V × Heap) :=
  match srcCells h w y with
  | none => none
  | some (new, k) =>
    match x with
    | .nils =>
      if k = 0 then some (.nils, h)
      else if roomy (k * w) then some (.slice h.length 0 k, h ++ [⟨.own, w, new⟩]) else none
    | .slice l o n =>
      if k = 0 then some (.slice l o n, h)
      else match h[l]? with
        | some b =>
          if b.k = .own ∧ b.w = w ∧ o = 0 ∧ n * w ≤ b.cs.length ∧ roomy ((n + k) * w) then
            some (.slice h.length 0 (n + k), h.set l ⟨.dead, w, []⟩ ++ [⟨.own, w, b.cs.take (n * w) ++ new⟩])
          else none
        | none => none
    | _ => none

def rep (z : List V) : Nat → List V
  | 0 => []
  | n + 1 => z ++ rep z n

/-! ### Operations on numbers, strings -/

def binInt (op : BinOp) (k : IntKind) (a b : Int) : Option V :=
  match op with
  | .add => some (.int k (k.wrap (a + b)))
  | .sub => some (.int k (k.wrap (a - b)))
  | .mul => some (.int k (k.wrap (a * b)))
  | .quo => if b = 0 then none else some (.int k (k.wrap (a.tdiv b)))
  | .rem => if b = 0 then none else some (.int k (a.tmod b))
  | .and => some (.int k (k.wrap (BitVec.ofInt k.bits a &&& BitVec.ofInt k.bits b).toNat))
  | .or => some (.int k (k.wrap (BitVec.ofInt k.bits a ||| BitVec.ofInt k.bits b).toNat))
  | .xor => some (.int k (k.wrap (BitVec.ofInt k.bits a ^^^ BitVec.ofInt k.bits b).toNat))
  | .andNot => some (.int k (k.wrap (BitVec.ofInt k.bits a &&& ~~~BitVec.ofInt k.bits b).toNat))
  | .eql => some (.bool (a == b))
  | .neq => some (.bool (a != b))
  | .lss => some (.bool (decide (a < b)))
  | .leq => some (.bool (decide (a ≤ b)))
  | .gtr => some (.bool (decide (a > b)))
  | .geq => some (.bool (decide (a ≥ b)))
  | _ => none

def shiftInt (op : BinOp) (k : IntKind) (a b : Int) : Option V :=
  if b < 0 then none else
  match op with
  | .shl => some (.int k (k.wrap (a * 2 ^ min b.toNat k.bits)))
  | .shr => some (.int k (a.fdiv (2 ^ min b.toNat k.bits)))
  | _ => none

/-- Two values of one cell, or of several, all numbers. -/
def eqCell : V → V → Option Bool
  | .int k a, .int k' b => if k = k' then some (a == b) else none
  | _, _ => none
def eqCells : List V → List V → Option Bool
  | [], [] => some true
  | a :: x, b :: y =>
    match eqCell a b with
    | some true => eqCells x y
    | some false => some false
    | none => none
  | _, _ => none

def binop (op : BinOp) (x y : V) : Option V :=
  match x, y with
  | .int k a, .int k' b =>
    match op with
    | .shl | .shr => shiftInt op k a b
    | _ => if k = k' then binInt op k a b else none
  | .str a, .str b =>
    match op with
    | .add => if a.length + b.length ≤ 9223372036854775807 then some (.str (a ++ b)) else none
    | .eql => some (.bool (a == b))
    | .neq => some (.bool (!(a == b)))
    | _ => none
  | _, _ => none

def unop (op : UnOp) (x : V) : Option V :=
  match op, x with
  | .not, .bool b => some (.bool (!b))
  | .neg, .int k n => some (.int k (k.wrap (0 - n)))
  | _, _ => none

/-- Parts are laid into cells. -/
def fillA (s : List V) : List V → List (Nat × Nat × Opnd) → Option (List V)
  | cs, [] => some cs
  | cs, (off, size, x) :: r =>
    let v := (x.ev s).cells
    if v.length = size ∧ off + size ≤ cs.length ∧ v.all V.cell then fillA s (splice cs off v) r else none

def aggOr (n : Option Nat) (cs : List V) : Option V :=
  match n, cs with
  | some _, cs => some (.agg cs)
  | none, [v] => some v
  | none, _ => none

def boundOf (d : Nat) : Option V → Option Nat
  | none => some d
  | some (.int _ i) => if 0 ≤ i then some i.toNat else none
  | some _ => none

def bytesOf : List V → Option (List UInt8)
  | [] => some []
  | .int .u8 n :: r => (bytesOf r).map fun s => UInt8.ofNat n.toNat :: s
  | _ :: _ => none

/-- ONE OPERATION that is no call: the value, the boxes, the heap behind it. -/
def stepV (o : AOp) (st : St) : Option (V × List (List V) × Heap) :=
  let s := st.sl
  let val (v : V) : Option (V × List (List V) × Heap) := some (v, st.bx, st.hp)
  match o with
  | .mv x => val (x.ev s)
  | .nilck x => match x.ev s with
    | .box i o => val (.box i o)
    | .ptr l o => val (.ptr l o)
    | _ => none
  | .pick c a b => match c.ev s with
    | .bool t => val (if t then a.ev s else b.ev s)
    | _ => none
  | .allocB i zs => if i < st.bx.length ∧ zs.all V.cell then some (.box i 0, putB st.bx i zs, st.hp) else none
  | .boxB i n x =>
    let cs := (x.ev s).cells
    if i < st.bx.length ∧ cs.length = n ∧ cs.all V.cell then some (.box i 0, putB st.bx i cs, st.hp) else none
  | .allocH zs => if zs.all V.cell then some (.ptr st.hp.length 0, st.bx, st.hp ++ [⟨.own, 1, zs⟩]) else none
  | .boxH n x =>
    let cs := (x.ev s).cells
    if cs.length = n ∧ cs.all V.cell then some (.ptr st.hp.length 0, st.bx, st.hp ++ [⟨.own, 1, cs⟩]) else none
  | .build zs ps => if zs.all V.cell then (fillA s zs ps).bind fun cs => val (.agg cs) else none
  | .mkSlice w z len => match len.ev s with
    | .int .i64 n =>
      if 0 ≤ n ∧ z.length = w ∧ 0 < w ∧ z.all V.cell ∧ roomy (n.toNat * w) then
        if n = 0 then val .nils else some (.slice st.hp.length 0 n.toNat, st.bx, st.hp ++ [⟨.own, w, rep z n.toNat⟩])
      else none
    | _ => none
  | .litSlice w n zs ps =>
    if n = 0 then val .nils
    else if zs.all V.cell ∧ zs.length = n * w ∧ 0 < w then
      (fillA s zs ps).bind fun cs => some (.slice st.hp.length 0 n, st.bx, st.hp ++ [⟨.own, w, cs⟩])
    else none
  | .loadB i n a => match a.ev s with
    | .box j o =>
      if i = j ∧ o + n.getD 1 ≤ (getB st.bx i).length then (aggOr n (((getB st.bx i).drop o).take (n.getD 1))).bind val else none
    | _ => none
  | .loadH n a => match a.ev s with
    | .ptr l o => (rd st.hp l o (n.getD 1)).bind fun cs => (aggOr n cs).bind val
    | _ => none
  | .storeB i n a x => match a.ev s with
    | .box j o =>
      let cs := (x.ev s).cells
      if i = j ∧ i < st.bx.length ∧ cs.length = n ∧ o + n ≤ (getB st.bx i).length ∧ cs.all V.cell then some (.undef, putB st.bx i (splice (getB st.bx i) o cs), st.hp) else none
    | _ => none
  | .storeH n a x => match a.ev s with
    | .ptr l o =>
      let cs := (x.ev s).cells
      if cs.length = n ∧ cs.all V.cell then (wr st.hp l o cs).bind fun h => some (.undef, st.bx, h) else none
    | _ => none
  | .bin op x y => (binop op (x.ev s) (y.ev s)).bind val
  | .eqB neg x y => match x.ev s, y.ev s with
    | .bool a, .bool b => val (.bool (if neg then !(a == b) else a == b))
    | _, _ => none
  | .eqN neg x y => match x.ev s, y with
    | .ifc a, .c (.ifc true) => val (.bool (if neg then !a else a))
    | _, _ => none
  | .eqA n neg x y => match x.ev s, y.ev s with
    | .agg a, .agg b => if a.length = n ∧ b.length = n then (eqCells a b).bind fun t => val (.bool (if neg then !t else t)) else none
    | _, _ => none
  | .un op x => (unop op (x.ev s)).bind val
  | .conv k x => match x.ev s with
    | .int _ n => val (.int k (k.wrap n))
    | _ => none
  | .bstr x => match x.ev s with
    | .nils => val (.str [])
    | .slice l o n => (rd st.hp l o n).bind fun cs => (bytesOf cs).bind fun b => val (.str b)
    | _ => none
  | .slice w x lo hi => match x.ev s with
    | .nils => (boundOf 0 (lo.map (·.ev s))).bind fun l => (boundOf 0 (hi.map (·.ev s))).bind fun h => if l = 0 ∧ h = 0 then val .nils else none
    | .slice b o n => (boundOf 0 (lo.map (·.ev s))).bind fun l => (boundOf n (hi.map (·.ev s))).bind fun h =>
        if l ≤ h ∧ h ≤ n ∧ widthOf st.hp b = some w then val (.slice b (o + l * w) (h - l)) else none
    | _ => none
  | .substr x lo hi => match x.ev s with
    | .str t => (boundOf 0 (lo.map (·.ev s))).bind fun l => (boundOf t.length (hi.map (·.ev s))).bind fun h =>
        if l ≤ h ∧ h ≤ t.length then val (.str ((t.drop l).take (h - l))) else none
    | _ => none
  | .fieldA off a => match a.ev s with
    | .box i o => val (.box i (o + off))
    | .ptr l o => val (.ptr l (o + off))
    | _ => none
  | .field off n x => match x.ev s with
    | .agg cs => if off + n.getD 1 ≤ cs.length then (aggOr n ((cs.drop off).take (n.getD 1))).bind val else none
    | _ => none
  | .indexA w x i => match x.ev s, i.ev s with
    | .slice l o n, .int _ j => if 0 ≤ j ∧ j < n then val (.ptr l (o + j.toNat * w)) else none
    | _, _ => none
  | .index x i => match x.ev s, i.ev s with
    | .str t, .int _ j => if 0 ≤ j then (match t[j.toNat]? with | some b => val (.int .u8 b.toNat) | none => none) else none
    | _, _ => none
  | .len x => match x.ev s with
    | .nils => val (.int .i64 0)
    | .slice _ _ n => val (.int .i64 n)
    | _ => none
  | .lenT x => match x.ev s with
    | .str t => val (.int .i64 t.length)
    | _ => none
  | .app w x y => if 0 < w then (app st.hp w (x.ev s) (y.ev s)).bind fun (v, h) => some (v, st.bx, h) else none
  | .minI x y => match x.ev s, y.ev s with
    | .int .i64 a, .int .i64 b => val (.int .i64 (if b < a then b else a))
    | _, _ => none
  | .maxI x y => match x.ev s, y.ev s with
    | .int .i64 a, .int .i64 b => val (.int .i64 (if b > a then b else a))
    | _, _ => none
  | .extract x i => match x.ev s with
    | .tup vs => match vs[i]? with
      | some v => val v
      | none => none
    | _ => none
  | .call .. => none

/-- The slots when a box is made anew. -/
def AOp.clears (o : AOp) (s : List V) : List V :=
  match o with
  | .allocB i _ | .boxB i _ _ => clearBox i s
  | _ => s

/-- An operation, then the rest. -/
def aop (o : AOp) (d : Option Nat) (k : St → Prop) (st : St) : Prop :=
  match o with
  | .call f args => (args.map (·.ev st.sl)).all V.ok1 = true ∧ f (args.map (·.ev st.sl)) st.hp fun r h => k (St.put { st with hp := h } d r)
  | o => match stepV o st with
    | some (v, bx, hp) => k (St.put { sl := o.clears st.sl, bx, hp } d v)
    | none => False

def aoper (o : AOper) (k : St → Prop) (st : St) : Prop :=
  match o.guard with
  | none => aop o.op o.dst k st
  | some (g, want) => match get st.sl g with
    | .bool b => if b = want then aop o.op o.dst k st else k (st.put o.dst (.tup []))
    | .tup [] => k (st.put o.dst (.tup []))
    | _ => False

def aops : List AOper → (St → Prop) → St → Prop
  | [], k, st => k st
  | o :: r, k, st => aoper o (aops r k) st

/-! ### Code -/

abbrev Kont := AExit → St → Prop

def seqK (next : St → Prop) (k : Kont) : Kont
  | .normal, st => next st
  | e, st => k e st
def blockK (id : Nat) (k : Kont) : Kont
  | .exit j, st => if j = id then k .normal st else k (.exit j) st
  | e, st => k e st
/-- At the most so many rounds. -/
def iter (body : Kont → St → Prop) (live : List Nat) (k : Kont) : Nat → St → Prop
  | 0, _ => False
  | n + 1, st => body (seqK (iter body live k n) k) { st with sl := keep live 0 st.sl }

def awp : ACode → Kont → St → Prop
  | .skip, k, st => k .normal st
  | .region ops, k, st => aops ops (k .normal) st
  | .seq a b, k, st => awp a (seqK (awp b k) k) st
  | .cond c a b, k, st => match c.ev st.sl with
    | .bool t => if t then awp a k st else awp b k st
    | _ => False
  | .block id a, k, st => awp a (blockK id k) st
  | .loop live a, k, st => ∃ n, iter (awp a) live k n st
  | .exit id, k, st => k (.exit id) st
  | .ret, k, st => k .ret st

/-! ### Functions -/

def resOf (st : St) : ARes → Option V
  | .tmp t => if (get st.sl t).ok1 then some (get st.sl t) else none
  | .cell t n => match get st.sl t with
    | .box i o => if o + n.getD 1 ≤ (getB st.bx i).length then aggOr n (((getB st.bx i).drop o).take (n.getD 1)) else none
    | .ptr l o => (rd st.hp l o (n.getD 1)).bind fun cs => aggOr n cs
    | _ => none
def resAll (st : St) : List ARes → Option (List V)
  | [] => some []
  | r :: rs => match resOf st r, resAll st rs with
    | some v, some vs => some (v :: vs)
    | _, _ => none
def resV (st : St) : List ARes → Option V
  | [r] => resOf st r
  | rs => (resAll st rs).map .tup

def reps : Nat → List V
  | 0 => []
  | n + 1 => .undef :: reps n
def repb : Nat → List (List V)
  | 0 => []
  | n + 1 => [] :: repb n

/-- What holds behind a call. Of a pure one, whose result refers to no memory and which leaves the heap's old blocks as they were, the new blocks are forgotten. -/
def retK (f : AFun) (h0 : Heap) (Q : V → Heap → Prop) : Kont
  | .normal, st | .ret, st => match resV st f.res with
    | some v => if f.pure then v.flat2 = true ∧ st.hp.take h0.length = h0 ∧ Q v h0 else Q v st.hp
    | none => False
  | .exit _, _ => False

def funSem (f : AFun) : CallSem := fun args h Q =>
  args.length = f.nparams ∧ awp f.body (retK f h Q) ⟨args ++ reps (f.nslots - f.nparams), repb f.nbox, h⟩

end Go.Ag
