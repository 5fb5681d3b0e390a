/-
  STEPPING THROUGH ABSTRACT CODE: one rule for each construct; a guard or a condition is passed only where its value is known.
-/
import Derived.Test.YtimnnpimflgonaaAgDefs
import Derived.Attr
namespace Go.Ag

theorem get_z (x : V) (r : List V) : get (x :: r) 0 = x := id rfl
theorem get_s (x : V) (r : List V) (n : Nat) : get (x :: r) (n + 1) = get r n := id rfl
theorem ev_t (s : List V) (n : Nat) : (Opnd.t n).ev s = get s n := id rfl
theorem ev_c (s : List V) (v : V) : (Opnd.c v).ev s = v := id rfl

/-- What is to hold behind a function's body. -/
def rk (pu : Bool) (res : List ARes) (h0 : Heap) (Q : V → Heap → Prop) : Kont := retK ⟨0, 0, 0, pu, res, .skip⟩ h0 Q

theorem fun_intro {np ns nb : Nat} {pu : Bool} {res : List ARes} {body : ACode} {args : List V} {h : Heap} {Q : V → Heap → Prop} (hl : args.length = np) (hb : awp body (rk pu res h Q) ⟨args ++ reps (ns - np), repb nb, h⟩) :
    funSem ⟨np, ns, nb, pu, res, body⟩ args h Q := ⟨hl, hb⟩

theorem awp_skip (k : Kont) (st : St) : awp .skip k st = k .normal st := rfl
theorem awp_region (o : List AOper) (k : Kont) (st : St) : awp (.region o) k st = aops o (k .normal) st := rfl
theorem awp_seq (a b : ACode) (k : Kont) (st : St) : awp (.seq a b) k st = awp a (seqK (awp b k) k) st := rfl
theorem awp_block (i : Nat) (a : ACode) (k : Kont) (st : St) : awp (.block i a) k st = awp a (blockK i k) st := rfl
theorem awp_exit (i : Nat) (k : Kont) (st : St) : awp (.exit i) k st = k (.exit i) st := rfl
theorem awp_ret (k : Kont) (st : St) : awp .ret k st = k .ret st := rfl
theorem awp_true {c : Opnd} {a b : ACode} {k : Kont} {st : St} (h : c.ev st.sl = .bool true) : awp (.cond c a b) k st = awp a k st := by simp only [awp, h, if_true]
theorem awp_false {c : Opnd} {a b : ACode} {k : Kont} {st : St} (h : c.ev st.sl = .bool false) : awp (.cond c a b) k st = awp b k st := by simp only [awp, h]; rfl

theorem seqK_normal (n : St → Prop) (k : Kont) (st : St) : seqK n k .normal st = n st := rfl
theorem seqK_ret (n : St → Prop) (k : Kont) (st : St) : seqK n k .ret st = k .ret st := rfl
theorem seqK_exit (n : St → Prop) (k : Kont) (i : Nat) (st : St) : seqK n k (.exit i) st = k (.exit i) st := rfl
theorem blockK_normal (i : Nat) (k : Kont) (st : St) : blockK i k .normal st = k .normal st := rfl
theorem blockK_ret (i : Nat) (k : Kont) (st : St) : blockK i k .ret st = k .ret st := rfl
theorem blockK_exit (i j : Nat) (k : Kont) (st : St) : blockK i k (.exit j) st = if j = i then k .normal st else k (.exit j) st := rfl
/-- The continuation of a block's or a sequence's normal end, by itself. -/
theorem seqK_app (n : St → Prop) (k : Kont) : seqK n k .normal = n := rfl
theorem blockK_app (i : Nat) (k : Kont) : blockK i k .normal = k .normal := rfl

theorem aops_nil (k : St → Prop) (st : St) : aops [] k st = k st := rfl
theorem aops_run {i : Nat} {d : Option Nat} {o : AOp} {a : List Nat} {r : List AOper} {k : St → Prop} {st : St} : aops (⟨i, d, o, none, a⟩ :: r) k st = aop o d (aops r k) st := rfl
theorem aops_on {i : Nat} {d : Option Nat} {o : AOp} {g : Nat} {w : Bool} {a : List Nat} {r : List AOper} {k : St → Prop} {st : St} (h : get st.sl g = .bool w) : aops (⟨i, d, o, some (g, w), a⟩ :: r) k st = aop o d (aops r k) st := by
  simp only [aops, aoper, h, if_true]
theorem aops_off {i : Nat} {d : Option Nat} {o : AOp} {g : Nat} {w b : Bool} {a : List Nat} {r : List AOper} {k : St → Prop} {st : St} (h : get st.sl g = .bool b) (hn : b ≠ w) : aops (⟨i, d, o, some (g, w), a⟩ :: r) k st = aops r k (st.put d (.tup [])) := by
  simp only [aops, aoper, h, if_neg hn]
theorem aops_offT {i : Nat} {d : Option Nat} {o : AOp} {g : Nat} {a : List Nat} {r : List AOper} {k : St → Prop} {st : St} (h : get st.sl g = .bool false) : aops (⟨i, d, o, some (g, true), a⟩ :: r) k st = aops r k (st.put d (.tup [])) := aops_off h (by decide)
theorem aops_offF {i : Nat} {d : Option Nat} {o : AOp} {g : Nat} {a : List Nat} {r : List AOper} {k : St → Prop} {st : St} (h : get st.sl g = .bool true) : aops (⟨i, d, o, some (g, false), a⟩ :: r) k st = aops r k (st.put d (.tup [])) := aops_off h (by decide)
theorem aops_out {i : Nat} {d : Option Nat} {o : AOp} {g : Nat} {w : Bool} {a : List Nat} {r : List AOper} {k : St → Prop} {st : St} (h : get st.sl g = .tup []) : aops (⟨i, d, o, some (g, w), a⟩ :: r) k st = aops r k (st.put d (.tup [])) := by
  simp only [aops, aoper, h]

/-- A guard is parted. -/
theorem aops_part {i : Nat} {d : Option Nat} {o : AOp} {g : Nat} {w : Bool} {a : List Nat} {r : List AOper} {k : St → Prop} {st : St} {b : Bool} (_h : get st.sl g = .bool b) (h1 : b = true → aops (⟨i, d, o, some (g, w), a⟩ :: r) k st) (h2 : b = false → aops (⟨i, d, o, some (g, w), a⟩ :: r) k st) :
    aops (⟨i, d, o, some (g, w), a⟩ :: r) k st := by
  cases b
  · exact h2 rfl
  · exact h1 rfl
theorem awp_part {c : Opnd} {x y : ACode} {k : Kont} {st : St} {b : Bool} (_h : c.ev st.sl = .bool b) (h1 : b = true → awp (.cond c x y) k st) (h2 : b = false → awp (.cond c x y) k st) : awp (.cond c x y) k st := by
  cases b
  · exact h2 rfl
  · exact h1 rfl

/-- One operation that is no call. -/
theorem wop_val {o : AOp} {d : Option Nat} {k : St → Prop} {st : St} {v : V} {bx : List (List V)} {hp : Heap} (h : stepV o st = some (v, bx, hp)) (hk : k (St.put ⟨o.clears st.sl, bx, hp⟩ d v)) : aop o d k st := by
  cases o <;> first | (simp [stepV] at h; done) | (simp only [aop, h]; exact hk)
theorem rk_ret (pu : Bool) (res : List ARes) (h0 : Heap) (Q : V → Heap → Prop) (st : St) : rk pu res h0 Q .ret st = (match resV st res with
    | some v => if pu then v.flat2 = true ∧ st.hp.take h0.length = h0 ∧ Q v h0 else Q v st.hp
    | none => False) := rfl
theorem rk_normal (pu : Bool) (res : List ARes) (h0 : Heap) (Q : V → Heap → Prop) (st : St) : rk pu res h0 Q .normal st = (match resV st res with
    | some v => if pu then v.flat2 = true ∧ st.hp.take h0.length = h0 ∧ Q v h0 else Q v st.hp
    | none => False) := rfl

/-! ### The operations, one by one -/

/-- A mark that ties an argument: the simplifier leaves a continuation alone where another argument's type hangs on it. -/
def Tied {α : Type} (_ : α) : Type := Unit
def tied {α : Type} (a : α) : Tied a := ()
/-- A value that is there. -/
def oV (o : Option V) (f : V → Prop) (_ : Tied f) : Prop := match o with
  | some v => f v
  | none => False
theorem oV_some (v : V) (f : V → Prop) (t : Tied f) : oV (some v) f t = f v := rfl
theorem oV_none (f : V → Prop) (t : Tied f) : oV none f t = False := rfl
theorem oV_if {c : Prop} {_ : Decidable c} {v : Option V} {f : V → Prop} {t : Tied f} (h : c) : oV (if c then v else none) f t = oV v f t := by rw [if_pos h]
def oS (o : Option (V × List (List V) × Heap)) (s : List V) (d : Option Nat) (k : St → Prop) (_ : Tied k) : Prop := match o with
  | some (v, bx, hp) => k (St.put ⟨s, bx, hp⟩ d v)
  | none => False
theorem oS_some (v : V) (bx : List (List V)) (hp : Heap) (s : List V) (d : Option Nat) (k : St → Prop) (t : Tied k) : oS (some (v, bx, hp)) s d k t = k (St.put ⟨s, bx, hp⟩ d v) := rfl
theorem oS_if {c : Prop} {_ : Decidable c} {x : Option (V × List (List V) × Heap)} {s : List V} {d : Option Nat} {k : St → Prop} {t : Tied k} (h : c) : oS (if c then x else none) s d k t = oS x s d k t := by rw [if_pos h]

@[congr] theorem awp_congr {c : ACode} {k : Kont} {st st' : St} (h : st = st') : awp c k st = awp c k st' := by rw [h]
@[congr] theorem aops_congr {o : List AOper} {k : St → Prop} {st st' : St} (h : st = st') : aops o k st = aops o k st' := by rw [h]
@[congr] theorem wop_congr {o : AOp} {d : Option Nat} {k : St → Prop} {st st' : St} (h : st = st') : aop o d k st = aop o d k st' := by rw [h]
@[congr] theorem seqK_congr {n : St → Prop} {k : Kont} {e e' : AExit} {st st' : St} (he : e = e') (h : st = st') : seqK n k e st = seqK n k e' st' := by rw [he, h]
@[congr] theorem blockK_congr {i : Nat} {k : Kont} {e e' : AExit} {st st' : St} (he : e = e') (h : st = st') : blockK i k e st = blockK i k e' st' := by rw [he, h]
@[congr] theorem rk_congr {pu : Bool} {res : List ARes} {h0 : Heap} {Q : V → Heap → Prop} {e e' : AExit} {st st' : St} (he : e = e') (h : st = st') : rk pu res h0 Q e st = rk pu res h0 Q e' st' := by rw [he, h]

def v_nilck : V → Option V
  | .box i o => some (.box i o)
  | .ptr l o => some (.ptr l o)
  | _ => none
def v_eqB (neg : Bool) : V → V → Option V
  | .bool a, .bool b => some (.bool (if neg then !(a == b) else a == b))
  | _, _ => none
def v_eqN (neg : Bool) : V → Option V
  | .ifc a => some (.bool (if neg then !a else a))
  | _ => none
def v_eqA (n : Nat) (neg : Bool) : V → V → Option V
  | .agg a, .agg b => if a.length = n ∧ b.length = n then (eqCells a b).bind fun t => some (.bool (if neg then !t else t)) else none
  | _, _ => none
def v_conv (k : IntKind) : V → Option V
  | .int _ n => some (.int k (k.wrap n))
  | _ => none
def v_bstr (h : Heap) : V → Option V
  | .nils => some (.str [])
  | .slice l o n => (rd h l o n).bind fun cs => (bytesOf cs).bind fun b => some (.str b)
  | _ => none
def v_slice (hp : Heap) (w : Nat) (x : V) (lo hi : Option V) : Option V := match x with
  | .nils => (boundOf 0 lo).bind fun l => (boundOf 0 hi).bind fun h => if l = 0 ∧ h = 0 then some .nils else none
  | .slice b o n => (boundOf 0 lo).bind fun l => (boundOf n hi).bind fun h =>
      if l ≤ h ∧ h ≤ n ∧ widthOf hp b = some w then some (.slice b (o + l * w) (h - l)) else none
  | _ => none
def v_substr (x : V) (lo hi : Option V) : Option V := match x with
  | .str t => (boundOf 0 lo).bind fun l => (boundOf t.length hi).bind fun h =>
      if l ≤ h ∧ h ≤ t.length then some (.str ((t.drop l).take (h - l))) else none
  | _ => none
def v_fieldA (off : Nat) : V → Option V
  | .box i o => some (.box i (o + off))
  | .ptr l o => some (.ptr l (o + off))
  | _ => none
def v_field (off : Nat) (n : Option Nat) : V → Option V
  | .agg cs => if off + n.getD 1 ≤ cs.length then aggOr n ((cs.drop off).take (n.getD 1)) else none
  | _ => none
def v_indexA (w : Nat) : V → V → Option V
  | .slice l o n, .int _ j => if 0 ≤ j ∧ j < n then some (.ptr l (o + j.toNat * w)) else none
  | _, _ => none
def v_index : V → V → Option V
  | .str t, .int _ j => if 0 ≤ j then (match t[j.toNat]? with | some b => some (.int .u8 b.toNat) | none => none) else none
  | _, _ => none
def v_len : V → Option V
  | .nils => some (.int .i64 0)
  | .slice _ _ n => some (.int .i64 n)
  | _ => none
def v_lenT : V → Option V
  | .str t => some (.int .i64 t.length)
  | _ => none
def v_min : V → V → Option V
  | .int .i64 a, .int .i64 b => some (.int .i64 (if b < a then b else a))
  | _, _ => none
def v_max : V → V → Option V
  | .int .i64 a, .int .i64 b => some (.int .i64 (if b > a then b else a))
  | _, _ => none
def v_extract (i : Nat) : V → Option V
  | .tup vs => vs[i]?
  | _ => none
def v_loadB (bx : List (List V)) (i : Nat) (n : Option Nat) : V → Option V
  | .box j o => if i = j ∧ o + n.getD 1 ≤ (getB bx i).length then aggOr n (((getB bx i).drop o).take (n.getD 1)) else none
  | _ => none
def v_loadH (hp : Heap) (n : Option Nat) : V → Option V
  | .ptr l o => (rd hp l o (n.getD 1)).bind fun cs => aggOr n cs
  | _ => none
def v_build (zs : List V) (cs : Option (List V)) : Option V := if zs.all V.cell then cs.bind fun cs => some (.agg cs) else none
def x_storeB (bx : List (List V)) (hp : Heap) (i n : Nat) (a x : V) : Option (V × List (List V) × Heap) := match a with
  | .box j o => if i = j ∧ i < bx.length ∧ x.cells.length = n ∧ o + n ≤ (getB bx i).length ∧ x.cells.all V.cell then some (.undef, putB bx i (splice (getB bx i) o x.cells), hp) else none
  | _ => none
def x_storeH (bx : List (List V)) (hp : Heap) (n : Nat) (a x : V) : Option (V × List (List V) × Heap) := match a with
  | .ptr l o => if x.cells.length = n ∧ x.cells.all V.cell then (wr hp l o x.cells).bind fun h => some (.undef, bx, h) else none
  | _ => none
def x_mkSlice (bx : List (List V)) (hp : Heap) (w : Nat) (z : List V) (len : V) : Option (V × List (List V) × Heap) := match len with
  | .int .i64 n =>
    if 0 ≤ n ∧ z.length = w ∧ 0 < w ∧ z.all V.cell ∧ roomy (n.toNat * w) then
      if n = 0 then some (.nils, bx, hp) else some (.slice hp.length 0 n.toNat, bx, hp ++ [⟨.own, w, rep z n.toNat⟩])
    else none
  | _ => none
def x_litSlice (bx : List (List V)) (hp : Heap) (w n : Nat) (zs : List V) (cs : Option (List V)) : Option (V × List (List V) × Heap) :=
  if n = 0 then some (.nils, bx, hp)
  else if zs.all V.cell ∧ zs.length = n * w ∧ 0 < w then cs.bind fun cs => some (.slice hp.length 0 n, bx, hp ++ [⟨.own, w, cs⟩])
  else none
def x_boxB (bx : List (List V)) (hp : Heap) (i n : Nat) (x : V) : Option (V × List (List V) × Heap) :=
  if i < bx.length ∧ x.cells.length = n ∧ x.cells.all V.cell then some (.box i 0, putB bx i x.cells, hp) else none
def x_allocB (bx : List (List V)) (hp : Heap) (i : Nat) (zs : List V) : Option (V × List (List V) × Heap) :=
  if i < bx.length ∧ zs.all V.cell then some (.box i 0, putB bx i zs, hp) else none
def x_boxH (bx : List (List V)) (hp : Heap) (n : Nat) (x : V) : Option (V × List (List V) × Heap) :=
  if x.cells.length = n ∧ x.cells.all V.cell then some (.ptr hp.length 0, bx, hp ++ [⟨.own, 1, x.cells⟩]) else none
def x_allocH (bx : List (List V)) (hp : Heap) (zs : List V) : Option (V × List (List V) × Heap) :=
  if zs.all V.cell then some (.ptr hp.length 0, bx, hp ++ [⟨.own, 1, zs⟩]) else none
def x_app (bx : List (List V)) (hp : Heap) (w : Nat) (x y : V) : Option (V × List (List V) × Heap) :=
  if 0 < w then (app hp w x y).bind fun (v, h) => some (v, bx, h) else none

/-- A call, its continuation unseen. -/
def callA (f : CallSem) (args : List V) (d : Option Nat) (k : St → Prop) (st : St) (_ : Tied k) : Prop := f args st.hp fun r h => k (St.put { st with hp := h } d r)

theorem match_oV {o : Option V} {k : St → Prop} {st : St} {d : Option Nat} :
    (match o.bind (fun v => (some (v, st.bx, st.hp) : Option (V × List (List V) × Heap))) with
    | some (v, bx, hp) => k (St.put { sl := st.sl, bx, hp } d v)
    | none => False) = oV o (fun v => k (st.put d v)) (tied _) := by
  cases o <;> rfl
theorem match_oS {o : Option (V × List (List V) × Heap)} {s : List V} {k : St → Prop} {d : Option Nat} :
    (match o with
    | some (v, bx, hp) => k (St.put { sl := s, bx, hp } d v)
    | none => False) = oS o s d k (tied k) := by
  cases o <;> rfl
theorem ite_oV {c : Prop} {_ : Decidable c} {v : V} {k : St → Prop} {st : St} {d : Option Nat} :
    (match (if c then some (v, st.bx, st.hp) else (none : Option (V × List (List V) × Heap))) with
    | some (v, bx, hp) => k (St.put { sl := st.sl, bx, hp } d v)
    | none => False) = oV (if c then some v else none) (fun v => k (st.put d v)) (tied _) := by
  by_cases h : c <;> simp only [h, if_true, if_false] <;> rfl
theorem ite_oV' {c : Prop} {_ : Decidable c} {o : Option V} {k : St → Prop} {st : St} {d : Option Nat} :
    (match (if c then o.bind (fun v => (some (v, st.bx, st.hp) : Option (V × List (List V) × Heap))) else none) with
    | some (v, bx, hp) => k (St.put { sl := st.sl, bx, hp } d v)
    | none => False) = oV (if c then o else none) (fun v => k (st.put d v)) (tied _) := by
  by_cases h : c <;> simp only [h, if_true, if_false]
  · cases o <;> rfl
  · rfl
theorem bind_some {α : Type} (o : Option α) : (o.bind fun x => some x) = o := by cases o <;> rfl

section
variable {d : Option Nat} {k : St → Prop} {st : St}
theorem wop_mv (x : Opnd) : aop (.mv x) d k st = k (st.put d (x.ev st.sl)) := rfl
theorem wop_pick_true {c a b : Opnd} (h : c.ev st.sl = .bool true) : aop (.pick c a b) d k st = k (st.put d (a.ev st.sl)) := by simp only [aop, stepV, h]; rfl
theorem wop_pick_false {c a b : Opnd} (h : c.ev st.sl = .bool false) : aop (.pick c a b) d k st = k (st.put d (b.ev st.sl)) := by simp only [aop, stepV, h]; rfl
theorem wop_pick_part {c a b : Opnd} {t : Bool} (_h : c.ev st.sl = .bool t) (h1 : t = true → aop (.pick c a b) d k st) (h2 : t = false → aop (.pick c a b) d k st) : aop (.pick c a b) d k st := by
  cases t
  · exact h2 rfl
  · exact h1 rfl
theorem wop_bin (op : BinOp) (x y : Opnd) : aop (.bin op x y) d k st = oV (binop op (x.ev st.sl) (y.ev st.sl)) (fun v => k (st.put d v)) (tied _) := match_oV
theorem wop_un (op : UnOp) (x : Opnd) : aop (.un op x) d k st = oV (unop op (x.ev st.sl)) (fun v => k (st.put d v)) (tied _) := match_oV
theorem wop_nilck (x : Opnd) : aop (.nilck x) d k st = oV (v_nilck (x.ev st.sl)) (fun v => k (st.put d v)) (tied _) := by simp only [aop, stepV, v_nilck]; cases x.ev st.sl <;> rfl
theorem wop_eqB (neg : Bool) (x y : Opnd) : aop (.eqB neg x y) d k st = oV (v_eqB neg (x.ev st.sl) (y.ev st.sl)) (fun v => k (st.put d v)) (tied _) := by
  simp only [aop, stepV]
  cases x.ev st.sl <;> try rfl
  cases y.ev st.sl <;> rfl
theorem wop_eqN (neg : Bool) (x : Opnd) : aop (.eqN neg x (.c (.ifc true))) d k st = oV (v_eqN neg (x.ev st.sl)) (fun v => k (st.put d v)) (tied _) := by
  simp only [aop, stepV]
  cases x.ev st.sl <;> rfl
theorem wop_eqA (n : Nat) (neg : Bool) (x y : Opnd) : aop (.eqA n neg x y) d k st = oV (v_eqA n neg (x.ev st.sl) (y.ev st.sl)) (fun v => k (st.put d v)) (tied _) := by
  simp only [aop, stepV]
  cases x.ev st.sl <;> try rfl
  cases y.ev st.sl <;> try rfl
  simp only [v_eqA]
  rename_i a b
  cases eqCells a b
  · by_cases h : a.length = n ∧ b.length = n <;> simp only [h, if_false] <;> rfl
  · exact ite_oV
theorem wop_conv (q : IntKind) (x : Opnd) : aop (.conv q x) d k st = oV (v_conv q (x.ev st.sl)) (fun v => k (st.put d v)) (tied _) := by simp only [aop, stepV]; cases x.ev st.sl <;> rfl
theorem wop_bstr (x : Opnd) : aop (.bstr x) d k st = oV (v_bstr st.hp (x.ev st.sl)) (fun v => k (st.put d v)) (tied _) := by
  simp only [aop, stepV]
  cases x.ev st.sl <;> try rfl
  simp only [v_bstr]
  rename_i l o n
  cases rd st.hp l o n <;> try rfl
  rename_i cs
  simp only [Option.bind]
  cases bytesOf cs <;> rfl
theorem wop_slice (w : Nat) (x : Opnd) (lo hi : Option Opnd) : aop (.slice w x lo hi) d k st = oV (v_slice st.hp w (x.ev st.sl) (lo.map (·.ev st.sl)) (hi.map (·.ev st.sl))) (fun v => k (st.put d v)) (tied _) := by
  simp only [aop, stepV]
  cases x.ev st.sl <;> try rfl
  · simp only [v_slice]
    cases boundOf 0 (lo.map (·.ev st.sl)) <;> try rfl
    cases boundOf 0 (hi.map (·.ev st.sl)) <;> try rfl
    exact ite_oV
  · simp only [v_slice]
    rename_i b o n
    cases boundOf 0 (lo.map (·.ev st.sl)) <;> try rfl
    cases boundOf n (hi.map (·.ev st.sl)) <;> try rfl
    exact ite_oV
theorem wop_substr (x : Opnd) (lo hi : Option Opnd) : aop (.substr x lo hi) d k st = oV (v_substr (x.ev st.sl) (lo.map (·.ev st.sl)) (hi.map (·.ev st.sl))) (fun v => k (st.put d v)) (tied _) := by
  simp only [aop, stepV]
  cases x.ev st.sl <;> try rfl
  simp only [v_substr]
  rename_i t
  cases boundOf 0 (lo.map (·.ev st.sl)) <;> try rfl
  cases boundOf t.length (hi.map (·.ev st.sl)) <;> try rfl
  exact ite_oV
theorem wop_fieldA (off : Nat) (x : Opnd) : aop (.fieldA off x) d k st = oV (v_fieldA off (x.ev st.sl)) (fun v => k (st.put d v)) (tied _) := by simp only [aop, stepV]; cases x.ev st.sl <;> rfl
theorem wop_field (off : Nat) (n : Option Nat) (x : Opnd) : aop (.field off n x) d k st = oV (v_field off n (x.ev st.sl)) (fun v => k (st.put d v)) (tied _) := by
  simp only [aop, stepV]
  cases x.ev st.sl <;> try rfl
  exact ite_oV'
theorem wop_indexA (w : Nat) (x i : Opnd) : aop (.indexA w x i) d k st = oV (v_indexA w (x.ev st.sl) (i.ev st.sl)) (fun v => k (st.put d v)) (tied _) := by
  simp only [aop, stepV]
  cases x.ev st.sl <;> try rfl
  cases i.ev st.sl <;> try rfl
  exact ite_oV
theorem wop_index (x i : Opnd) : aop (.index x i) d k st = oV (v_index (x.ev st.sl) (i.ev st.sl)) (fun v => k (st.put d v)) (tied _) := by
  simp only [aop, stepV]
  cases x.ev st.sl <;> try rfl
  cases i.ev st.sl <;> try rfl
  simp only [v_index]
  rename_i t _ j
  by_cases h : 0 ≤ j
  · simp only [h, if_true]
    cases t[j.toNat]? <;> rfl
  · simp only [h, if_false]
    rfl
theorem wop_len (x : Opnd) : aop (.len x) d k st = oV (v_len (x.ev st.sl)) (fun v => k (st.put d v)) (tied _) := by simp only [aop, stepV]; cases x.ev st.sl <;> rfl
theorem wop_lenT (x : Opnd) : aop (.lenT x) d k st = oV (v_lenT (x.ev st.sl)) (fun v => k (st.put d v)) (tied _) := by simp only [aop, stepV]; cases x.ev st.sl <;> rfl
theorem wop_minI (x y : Opnd) : aop (.minI x y) d k st = oV (v_min (x.ev st.sl) (y.ev st.sl)) (fun v => k (st.put d v)) (tied _) := by
  simp only [aop, stepV]
  cases hx : x.ev st.sl <;> try rfl
  rename_i q _
  cases q <;> try rfl
  cases y.ev st.sl <;> try rfl
  rename_i q _
  cases q <;> rfl
theorem wop_maxI (x y : Opnd) : aop (.maxI x y) d k st = oV (v_max (x.ev st.sl) (y.ev st.sl)) (fun v => k (st.put d v)) (tied _) := by
  simp only [aop, stepV]
  cases hx : x.ev st.sl <;> try rfl
  rename_i q _
  cases q <;> try rfl
  cases y.ev st.sl <;> try rfl
  rename_i q _
  cases q <;> rfl
theorem wop_extract (x : Opnd) (i : Nat) : aop (.extract x i) d k st = oV (v_extract i (x.ev st.sl)) (fun v => k (st.put d v)) (tied _) := by
  simp only [aop, stepV]
  cases x.ev st.sl <;> try rfl
  rename_i vs
  simp only [v_extract]
  cases vs[i]? <;> rfl
theorem wop_loadB (i : Nat) (n : Option Nat) (a : Opnd) : aop (.loadB i n a) d k st = oV (v_loadB st.bx i n (a.ev st.sl)) (fun v => k (st.put d v)) (tied _) := by
  simp only [aop, stepV]
  cases a.ev st.sl <;> try rfl
  exact ite_oV'
theorem wop_loadH (n : Option Nat) (a : Opnd) : aop (.loadH n a) d k st = oV (v_loadH st.hp n (a.ev st.sl)) (fun v => k (st.put d v)) (tied _) := by
  simp only [aop, stepV]
  cases a.ev st.sl <;> try rfl
  simp only [v_loadH]
  rename_i l o
  cases rd st.hp l o (n.getD 1) <;> try rfl
  exact match_oV
theorem wop_build (zs : List V) (ps : List (Nat × Nat × Opnd)) : aop (.build zs ps) d k st = oV (v_build zs (fillA st.sl zs ps)) (fun v => k (st.put d v)) (tied _) := by
  simp only [aop, stepV, v_build]
  by_cases h : zs.all V.cell = true
  · simp only [h, if_true]
    cases fillA st.sl zs ps <;> rfl
  · simp only [h]
    rfl
theorem wop_storeB (i n : Nat) (a x : Opnd) : aop (.storeB i n a x) d k st = oS (x_storeB st.bx st.hp i n (a.ev st.sl) (x.ev st.sl)) st.sl d k (tied k) := by
  simp only [aop, stepV, x_storeB]
  cases a.ev st.sl <;> first | rfl | exact match_oS
theorem wop_storeH (n : Nat) (a x : Opnd) : aop (.storeH n a x) d k st = oS (x_storeH st.bx st.hp n (a.ev st.sl) (x.ev st.sl)) st.sl d k (tied k) := by
  simp only [aop, stepV, x_storeH]
  cases a.ev st.sl <;> first | rfl | exact match_oS
theorem wop_mkSlice (w : Nat) (z : List V) (x : Opnd) : aop (.mkSlice w z x) d k st = oS (x_mkSlice st.bx st.hp w z (x.ev st.sl)) st.sl d k (tied k) := by
  simp only [aop, stepV, x_mkSlice]
  cases x.ev st.sl <;> rfl
theorem wop_litSlice (w n : Nat) (zs : List V) (ps : List (Nat × Nat × Opnd)) : aop (.litSlice w n zs ps) d k st = oS (x_litSlice st.bx st.hp w n zs (fillA st.sl zs ps)) st.sl d k (tied k) := by
  simp only [aop, stepV, x_litSlice]
  by_cases h : n = 0 <;> simp only [h, if_true, if_false]
  · rfl
  · by_cases h2 : zs.all V.cell = true ∧ zs.length = n * w ∧ 0 < w <;> simp only [h2, if_true, if_false, and_self]
    · cases fillA st.sl zs ps <;> rfl
    · rfl
theorem wop_boxB (i n : Nat) (x : Opnd) : aop (.boxB i n x) d k st = oS (x_boxB st.bx st.hp i n (x.ev st.sl)) (clearBox i st.sl) d k (tied k) := by
  simp only [aop, stepV, x_boxB]
  exact match_oS
theorem wop_allocB (i : Nat) (zs : List V) : aop (.allocB i zs) d k st = oS (x_allocB st.bx st.hp i zs) (clearBox i st.sl) d k (tied k) := by
  simp only [aop, stepV, x_allocB]
  exact match_oS
theorem wop_boxH (n : Nat) (x : Opnd) : aop (.boxH n x) d k st = oS (x_boxH st.bx st.hp n (x.ev st.sl)) st.sl d k (tied k) := by
  simp only [aop, stepV, x_boxH]
  exact match_oS
theorem wop_allocH (zs : List V) : aop (.allocH zs) d k st = oS (x_allocH st.bx st.hp zs) st.sl d k (tied k) := by
  simp only [aop, stepV, x_allocH]
  exact match_oS
theorem wop_app (w : Nat) (x y : Opnd) : aop (.app w x y) d k st = oS (x_app st.bx st.hp w (x.ev st.sl) (y.ev st.sl)) st.sl d k (tied k) := by
  simp only [aop, stepV, x_app]
  exact match_oS
theorem wop_call (f : CallSem) (args : List Opnd) : aop (.call f args) d k st = ((args.map (·.ev st.sl)).all V.ok1 = true ∧ callA f (args.map (·.ev st.sl)) d k st (tied k)) := rfl
end

/-! ### Reduction by cases: nothing is unfolded where a value is not known -/
section
variable {k : IntKind}
theorem v_nilck_box (i o : Nat) : v_nilck (.box i o) = some (.box i o) := rfl
theorem v_nilck_ptr (l o : Nat) : v_nilck (.ptr l o) = some (.ptr l o) := rfl
theorem v_eqB_t (a b : Bool) : v_eqB true (.bool a) (.bool b) = some (.bool (!(a == b))) := rfl
theorem v_eqB_f (a b : Bool) : v_eqB false (.bool a) (.bool b) = some (.bool (a == b)) := rfl
theorem v_eqN_t (a : Bool) : v_eqN true (.ifc a) = some (.bool (!a)) := rfl
theorem v_eqN_f (a : Bool) : v_eqN false (.ifc a) = some (.bool a) := rfl
theorem v_eqA_mk (n : Nat) (neg : Bool) (a b : List V) : v_eqA n neg (.agg a) (.agg b) = if a.length = n ∧ b.length = n then (eqCells a b).bind fun t => some (.bool (if neg then !t else t)) else none := rfl
theorem v_conv_mk (q : IntKind) (n : Int) : v_conv q (.int k n) = some (.int q (q.wrap n)) := rfl
theorem v_bstr_nils (h : Heap) : v_bstr h .nils = some (.str []) := rfl
theorem v_slice_nils (hp : Heap) (w : Nat) (lo hi : Option V) : v_slice hp w .nils lo hi = (boundOf 0 lo).bind fun l => (boundOf 0 hi).bind fun h => if l = 0 ∧ h = 0 then some .nils else none := rfl
theorem v_slice_mk (hp : Heap) (w b o n : Nat) (lo hi : Option V) : v_slice hp w (.slice b o n) lo hi = (boundOf 0 lo).bind fun l => (boundOf n hi).bind fun h => if l ≤ h ∧ h ≤ n ∧ widthOf hp b = some w then some (.slice b (o + l * w) (h - l)) else none := rfl
theorem v_substr_mk (t : List UInt8) (lo hi : Option V) : v_substr (.str t) lo hi = (boundOf 0 lo).bind fun l => (boundOf t.length hi).bind fun h => if l ≤ h ∧ h ≤ t.length then some (.str ((t.drop l).take (h - l))) else none := rfl
theorem v_fieldA_box (off i o : Nat) : v_fieldA off (.box i o) = some (.box i (o + off)) := rfl
theorem v_fieldA_ptr (off l o : Nat) : v_fieldA off (.ptr l o) = some (.ptr l (o + off)) := rfl
theorem v_field_mk (off : Nat) (n : Option Nat) (cs : List V) : v_field off n (.agg cs) = if off + n.getD 1 ≤ cs.length then aggOr n ((cs.drop off).take (n.getD 1)) else none := rfl
theorem v_index_mk (t : List UInt8) (j : Int) : v_index (.str t) (.int k j) = if 0 ≤ j then (match t[j.toNat]? with | some b => some (.int .u8 b.toNat) | none => none) else none := rfl
theorem v_len_nils : v_len .nils = some (.int .i64 0) := rfl
theorem v_len_mk (l o n : Nat) : v_len (.slice l o n) = some (.int .i64 n) := rfl
theorem v_lenT_mk (t : List UInt8) : v_lenT (.str t) = some (.int .i64 t.length) := rfl
theorem v_min_mk (a b : Int) : v_min (.int .i64 a) (.int .i64 b) = some (.int .i64 (if b < a then b else a)) := rfl
theorem v_max_mk (a b : Int) : v_max (.int .i64 a) (.int .i64 b) = some (.int .i64 (if b > a then b else a)) := rfl
theorem v_extract_z (v : V) (vs : List V) : v_extract 0 (.tup (v :: vs)) = some v := rfl
theorem v_extract_s (i : Nat) (v : V) (vs : List V) : v_extract (i + 1) (.tup (v :: vs)) = v_extract i (.tup vs) := rfl
theorem v_loadB_mk (bx : List (List V)) (i : Nat) (n : Option Nat) (j o : Nat) : v_loadB bx i n (.box j o) = if i = j ∧ o + n.getD 1 ≤ (getB bx i).length then aggOr n (((getB bx i).drop o).take (n.getD 1)) else none := rfl
theorem x_storeB_mk (bx : List (List V)) (hp : Heap) (i n j o : Nat) (x : V) : x_storeB bx hp i n (.box j o) x = if i = j ∧ i < bx.length ∧ x.cells.length = n ∧ o + n ≤ (getB bx i).length ∧ x.cells.all V.cell then some (.undef, putB bx i (splice (getB bx i) o x.cells), hp) else none := rfl
theorem binop_add (a b : Int) : binop .add (.int k a) (.int k b) = some (.int k (k.wrap (a + b))) := by simp [binop, binInt]
theorem binop_sub (a b : Int) : binop .sub (.int k a) (.int k b) = some (.int k (k.wrap (a - b))) := by simp [binop, binInt]
theorem binop_mul (a b : Int) : binop .mul (.int k a) (.int k b) = some (.int k (k.wrap (a * b))) := by simp [binop, binInt]
theorem binop_quo (a b : Int) : binop .quo (.int k a) (.int k b) = if b = 0 then none else some (.int k (k.wrap (a.tdiv b))) := by simp [binop, binInt]
theorem binop_rem (a b : Int) : binop .rem (.int k a) (.int k b) = if b = 0 then none else some (.int k (a.tmod b)) := by simp [binop, binInt]
theorem binop_and (a b : Int) : binop .and (.int k a) (.int k b) = some (.int k (k.wrap (BitVec.ofInt k.bits a &&& BitVec.ofInt k.bits b).toNat)) := by simp [binop, binInt]
theorem binop_or (a b : Int) : binop .or (.int k a) (.int k b) = some (.int k (k.wrap (BitVec.ofInt k.bits a ||| BitVec.ofInt k.bits b).toNat)) := by simp [binop, binInt]
theorem binop_xor (a b : Int) : binop .xor (.int k a) (.int k b) = some (.int k (k.wrap (BitVec.ofInt k.bits a ^^^ BitVec.ofInt k.bits b).toNat)) := by simp [binop, binInt]
theorem binop_andNot (a b : Int) : binop .andNot (.int k a) (.int k b) = some (.int k (k.wrap (BitVec.ofInt k.bits a &&& ~~~BitVec.ofInt k.bits b).toNat)) := by simp [binop, binInt]
theorem binop_eql (a b : Int) : binop .eql (.int k a) (.int k b) = some (.bool (a == b)) := by simp [binop, binInt]
theorem binop_neq (a b : Int) : binop .neq (.int k a) (.int k b) = some (.bool (a != b)) := by simp [binop, binInt]
theorem binop_lss (a b : Int) : binop .lss (.int k a) (.int k b) = some (.bool (decide (a < b))) := by simp [binop, binInt]
theorem binop_leq (a b : Int) : binop .leq (.int k a) (.int k b) = some (.bool (decide (a ≤ b))) := by simp [binop, binInt]
theorem binop_gtr (a b : Int) : binop .gtr (.int k a) (.int k b) = some (.bool (decide (a > b))) := by simp [binop, binInt]
theorem binop_geq (a b : Int) : binop .geq (.int k a) (.int k b) = some (.bool (decide (a ≥ b))) := by simp [binop, binInt]
theorem binop_shl (q : IntKind) (a b : Int) : binop .shl (.int k a) (.int q b) = if b < 0 then none else some (.int k (k.wrap (a * 2 ^ min b.toNat k.bits))) := by simp [binop, shiftInt]
theorem binop_shr (q : IntKind) (a b : Int) : binop .shr (.int k a) (.int q b) = if b < 0 then none else some (.int k (a.fdiv (2 ^ min b.toNat k.bits))) := by simp [binop, shiftInt]
theorem binop_cat (a b : List UInt8) : binop .add (.str a) (.str b) = if a.length + b.length ≤ 9223372036854775807 then some (.str (a ++ b)) else none := rfl
theorem binop_seq (a b : List UInt8) : binop .eql (.str a) (.str b) = some (.bool (a == b)) := rfl
theorem binop_sne (a b : List UInt8) : binop .neq (.str a) (.str b) = some (.bool (!(a == b))) := rfl
theorem unop_not (b : Bool) : unop .not (.bool b) = some (.bool (!b)) := rfl
theorem unop_neg (n : Int) : unop .neg (.int k n) = some (.int k (k.wrap (0 - n))) := rfl
theorem boundOf_none (d : Nat) : boundOf d none = some d := rfl
theorem boundOf_mk (d : Nat) (i : Int) : boundOf d (some (.int k i)) = if 0 ≤ i then some i.toNat else none := rfl
theorem aggOr_some (n : Nat) (cs : List V) : aggOr (some n) cs = some (.agg cs) := rfl
theorem aggOr_none (v : V) : aggOr none [v] = some v := rfl
end

theorem V.cell_undef : V.cell V.undef = false := rfl
theorem V.cells_undef : V.cells V.undef = [V.undef] := rfl
theorem V.ok1_undef : V.ok1 V.undef = false := rfl
theorem V.flat_undef : V.flat V.undef = false := rfl
theorem V.flat1_undef : V.flat1 V.undef = false := rfl
theorem V.flat2_undef : V.flat2 V.undef = false := rfl
theorem V.isBox_undef (i : Nat) : V.isBox i V.undef = false := rfl
theorem V.cell_bool (b : Bool) : V.cell (V.bool b) = true := rfl
theorem V.cells_bool (b : Bool) : V.cells (V.bool b) = [(V.bool b)] := rfl
theorem V.ok1_bool (b : Bool) : V.ok1 (V.bool b) = true := rfl
theorem V.flat_bool (b : Bool) : V.flat (V.bool b) = true := rfl
theorem V.flat1_bool (b : Bool) : V.flat1 (V.bool b) = true := rfl
theorem V.flat2_bool (b : Bool) : V.flat2 (V.bool b) = true := rfl
theorem V.isBox_bool (i : Nat) (b : Bool) : V.isBox i (V.bool b) = false := rfl
theorem V.cell_int (k : IntKind) (n : Int) : V.cell (V.int k n) = true := rfl
theorem V.cells_int (k : IntKind) (n : Int) : V.cells (V.int k n) = [(V.int k n)] := rfl
theorem V.ok1_int (k : IntKind) (n : Int) : V.ok1 (V.int k n) = true := rfl
theorem V.flat_int (k : IntKind) (n : Int) : V.flat (V.int k n) = true := rfl
theorem V.flat1_int (k : IntKind) (n : Int) : V.flat1 (V.int k n) = true := rfl
theorem V.flat2_int (k : IntKind) (n : Int) : V.flat2 (V.int k n) = true := rfl
theorem V.isBox_int (i : Nat) (k : IntKind) (n : Int) : V.isBox i (V.int k n) = false := rfl
theorem V.cell_str (s : List UInt8) : V.cell (V.str s) = true := rfl
theorem V.cells_str (s : List UInt8) : V.cells (V.str s) = [(V.str s)] := rfl
theorem V.ok1_str (s : List UInt8) : V.ok1 (V.str s) = true := rfl
theorem V.flat_str (s : List UInt8) : V.flat (V.str s) = true := rfl
theorem V.flat1_str (s : List UInt8) : V.flat1 (V.str s) = true := rfl
theorem V.flat2_str (s : List UInt8) : V.flat2 (V.str s) = true := rfl
theorem V.isBox_str (i : Nat) (s : List UInt8) : V.isBox i (V.str s) = false := rfl
theorem V.cell_nils : V.cell V.nils = true := rfl
theorem V.cells_nils : V.cells V.nils = [V.nils] := rfl
theorem V.ok1_nils : V.ok1 V.nils = true := rfl
theorem V.flat_nils : V.flat V.nils = true := rfl
theorem V.flat1_nils : V.flat1 V.nils = true := rfl
theorem V.flat2_nils : V.flat2 V.nils = true := rfl
theorem V.isBox_nils (i : Nat) : V.isBox i V.nils = false := rfl
theorem V.cell_slice (l o n : Nat) : V.cell (V.slice l o n) = true := rfl
theorem V.cells_slice (l o n : Nat) : V.cells (V.slice l o n) = [(V.slice l o n)] := rfl
theorem V.ok1_slice (l o n : Nat) : V.ok1 (V.slice l o n) = true := rfl
theorem V.flat_slice (l o n : Nat) : V.flat (V.slice l o n) = false := rfl
theorem V.flat1_slice (l o n : Nat) : V.flat1 (V.slice l o n) = false := rfl
theorem V.flat2_slice (l o n : Nat) : V.flat2 (V.slice l o n) = false := rfl
theorem V.isBox_slice (i : Nat) (l o n : Nat) : V.isBox i (V.slice l o n) = false := rfl
theorem V.cell_box (j o : Nat) : V.cell (V.box j o) = false := rfl
theorem V.cells_box (j o : Nat) : V.cells (V.box j o) = [(V.box j o)] := rfl
theorem V.ok1_box (j o : Nat) : V.ok1 (V.box j o) = false := rfl
theorem V.flat_box (j o : Nat) : V.flat (V.box j o) = false := rfl
theorem V.flat1_box (j o : Nat) : V.flat1 (V.box j o) = false := rfl
theorem V.flat2_box (j o : Nat) : V.flat2 (V.box j o) = false := rfl
theorem V.isBox_box (i : Nat) (j o : Nat) : V.isBox i (V.box j o) = (i == j) := rfl
theorem V.cell_ptr (l o : Nat) : V.cell (V.ptr l o) = true := rfl
theorem V.cells_ptr (l o : Nat) : V.cells (V.ptr l o) = [(V.ptr l o)] := rfl
theorem V.ok1_ptr (l o : Nat) : V.ok1 (V.ptr l o) = true := rfl
theorem V.flat_ptr (l o : Nat) : V.flat (V.ptr l o) = false := rfl
theorem V.flat1_ptr (l o : Nat) : V.flat1 (V.ptr l o) = false := rfl
theorem V.flat2_ptr (l o : Nat) : V.flat2 (V.ptr l o) = false := rfl
theorem V.isBox_ptr (i : Nat) (l o : Nat) : V.isBox i (V.ptr l o) = false := rfl
theorem V.cell_ifc (b : Bool) : V.cell (V.ifc b) = true := rfl
theorem V.cells_ifc (b : Bool) : V.cells (V.ifc b) = [(V.ifc b)] := rfl
theorem V.ok1_ifc (b : Bool) : V.ok1 (V.ifc b) = true := rfl
theorem V.flat_ifc (b : Bool) : V.flat (V.ifc b) = true := rfl
theorem V.flat1_ifc (b : Bool) : V.flat1 (V.ifc b) = true := rfl
theorem V.flat2_ifc (b : Bool) : V.flat2 (V.ifc b) = true := rfl
theorem V.isBox_ifc (i : Nat) (b : Bool) : V.isBox i (V.ifc b) = false := rfl
theorem V.cell_agg (cs : List V) : V.cell (V.agg cs) = false := rfl
theorem V.cells_agg (cs : List V) : V.cells (V.agg cs) = cs := rfl
theorem V.ok1_agg (cs : List V) : V.ok1 (V.agg cs) = cs.all V.cell := rfl
theorem V.flat_agg (cs : List V) : V.flat (V.agg cs) = false := rfl
theorem V.flat1_agg (cs : List V) : V.flat1 (V.agg cs) = cs.all V.flat := rfl
theorem V.flat2_agg (cs : List V) : V.flat2 (V.agg cs) = cs.all V.flat := rfl
theorem V.isBox_agg (i : Nat) (cs : List V) : V.isBox i (V.agg cs) = false := rfl
theorem V.cell_tup (cs : List V) : V.cell (V.tup cs) = false := rfl
theorem V.cells_tup (cs : List V) : V.cells (V.tup cs) = [(V.tup cs)] := rfl
theorem V.ok1_tup (cs : List V) : V.ok1 (V.tup cs) = false := rfl
theorem V.flat_tup (cs : List V) : V.flat (V.tup cs) = false := rfl
theorem V.flat1_tup (cs : List V) : V.flat1 (V.tup cs) = false := rfl
theorem V.flat2_tup (cs : List V) : V.flat2 (V.tup cs) = cs.all V.flat1 := rfl
theorem V.isBox_tup (i : Nat) (cs : List V) : V.isBox i (V.tup cs) = false := rfl

theorem callP {f : CallSem} {args : List V} {v : V} (p : ∀ h Q, Q v h → f args h Q) {d : Option Nat} {k : St → Prop} {st : St} {t : Tied k} (hk : k (st.put d v)) : callA f args d k st t := p _ _ hk
theorem callH {f : CallSem} {args : List V} {v : V} {d : Option Nat} {k : St → Prop} {st : St} {t : Tied k} (p : ∀ Q : V → Heap → Prop, Q v st.hp → f args st.hp Q) (hk : k (st.put d v)) : callA f args d k st t := p _ hk
theorem callN {f : CallSem} {args : List V} {d : Option Nat} {k : St → Prop} {st : St} {t : Tied k} (p : f args st.hp fun r h => k (St.put ⟨st.sl, st.bx, h⟩ d r)) : callA f args d k st t := p
theorem leafB {Q : V → Heap → Prop} {h : Heap} {x y : Bool} (hQ : Q (.bool y) h) (e : x = y) : Q (.bool x) h := e ▸ hQ

/-! ### Loops -/
theorem loop_fuel {body : ACode} {live : List Nat} {k : Kont} (I : Nat → St → Prop)
    (hs : ∀ (m : Nat) (st : St) (next : St → Prop), I m st → (∀ (m' : Nat) (st' : St), m' < m → I m' { st' with sl := keep live 0 st'.sl } → next st') → awp body (seqK next k) st) :
    ∀ (fuel m : Nat) (st : St), m < fuel → I m { st with sl := keep live 0 st.sl } → iter (awp body) live k fuel st
  | 0, m, st, h, _ => absurd h (Nat.not_lt_zero m)
  | fuel + 1, m, st, h, hI => hs m _ _ hI fun m' st' hm hI' => loop_fuel I hs fuel m' st' (by omega) hI'
/-- A loop with a measure. -/
theorem loop_by {body : ACode} {live : List Nat} {k : Kont} {st : St} (I : Nat → St → Prop) (m : Nat) (h0 : I m { st with sl := keep live 0 st.sl })
    (hs : ∀ (m : Nat) (st : St) (next : St → Prop), I m st → (∀ (m' : Nat) (st' : St), m' < m → I m' { st' with sl := keep live 0 st'.sl } → next st') → awp body (seqK next k) st) :
    awp (.loop live body) k st := ⟨m + 1, loop_fuel I hs (m + 1) m st (Nat.lt_succ_self m) h0⟩
/-- A loop that counts from 0 to n. -/
theorem loop_up {body : ACode} {live : List Nat} {k : Kont} {st : St} (n : Nat) (I : Nat → St → Prop) (h0 : I 0 { st with sl := keep live 0 st.sl })
    (hs : ∀ (i : Nat) (st : St) (next : St → Prop), i ≤ n → I i st → (∀ st' : St, i < n → I (i + 1) { st' with sl := keep live 0 st'.sl } → next st') → awp body (seqK next k) st) :
    awp (.loop live body) k st := by
  refine loop_by (fun m st => ∃ i, i ≤ n ∧ m = n - i ∧ I i st) n ⟨0, Nat.zero_le n, rfl, h0⟩ fun m st next hI hn => ?_
  obtain ⟨i, hi, hm, hI⟩ := hI
  exact hs i st next hi hI fun st' hlt hI' => hn (n - (i + 1)) st' (by omega) ⟨i + 1, by omega, rfl, hI'⟩
attribute [go_sem] awp_skip awp_region awp_seq awp_block awp_exit awp_ret seqK_normal seqK_ret seqK_exit blockK_normal blockK_ret blockK_exit seqK_app blockK_app aops_nil aops_run aops_on aops_offT aops_offF eq_self aops_out awp_true awp_false wop_mv wop_pick_true wop_pick_false wop_bin wop_eqB wop_eqN wop_eqA wop_un wop_conv wop_bstr wop_slice wop_substr wop_fieldA wop_field wop_indexA wop_index wop_len wop_lenT wop_app wop_minI wop_maxI wop_extract wop_allocB wop_boxB wop_allocH wop_boxH wop_build wop_mkSlice wop_litSlice wop_loadB wop_loadH wop_storeB wop_storeH wop_nilck wop_call oV_some oV_none oS_some v_nilck_box v_nilck_ptr v_eqB_t v_eqB_f v_eqN_t v_eqN_f v_eqA_mk v_conv_mk v_bstr_nils v_slice_nils v_slice_mk v_substr_mk v_fieldA_box v_fieldA_ptr v_field_mk v_index_mk v_len_nils v_len_mk v_lenT_mk v_min_mk v_max_mk v_extract_z v_extract_s v_loadB_mk v_build x_storeB_mk x_boxB x_allocB x_boxH x_allocH binop_add binop_sub binop_mul binop_quo binop_rem binop_and binop_or binop_xor binop_andNot binop_eql binop_neq binop_lss binop_leq binop_gtr binop_geq binop_shl binop_shr binop_cat binop_seq binop_sne unop_not unop_neg boundOf_none boundOf_mk aggOr_some aggOr_none rk_ret rk_normal resV resOf resAll ev_t ev_c get_z get_s put getB putB splice V.cell_undef V.cells_undef V.ok1_undef V.flat_undef V.flat1_undef V.flat2_undef V.isBox_undef V.cell_bool V.cells_bool V.ok1_bool V.flat_bool V.flat1_bool V.flat2_bool V.isBox_bool V.cell_int V.cells_int V.ok1_int V.flat_int V.flat1_int V.flat2_int V.isBox_int V.cell_str V.cells_str V.ok1_str V.flat_str V.flat1_str V.flat2_str V.isBox_str V.cell_nils V.cells_nils V.ok1_nils V.flat_nils V.flat1_nils V.flat2_nils V.isBox_nils V.cell_slice V.cells_slice V.ok1_slice V.flat_slice V.flat1_slice V.flat2_slice V.isBox_slice V.cell_box V.cells_box V.ok1_box V.flat_box V.flat1_box V.flat2_box V.isBox_box V.cell_ptr V.cells_ptr V.ok1_ptr V.flat_ptr V.flat1_ptr V.flat2_ptr V.isBox_ptr V.cell_ifc V.cells_ifc V.ok1_ifc V.flat_ifc V.flat1_ifc V.flat2_ifc V.isBox_ifc V.cell_agg V.cells_agg V.ok1_agg V.flat_agg V.flat1_agg V.flat2_agg V.isBox_agg V.cell_tup V.cells_tup V.ok1_tup V.flat_tup V.flat1_tup V.flat2_tup V.isBox_tup clearBox keep St.put AOp.clears reps repb List.cons_append List.nil_append List.map List.all_cons List.all_nil Bool.and_true Bool.not_true Bool.not_false Bool.true_and Option.bind Option.getD_none Option.getD_some if_true if_false ne_eq not_false_eq_true not_true_eq_false Bool.false_eq_true Bool.true_eq_false List.length_cons List.length_nil List.take List.drop and_true true_and fillA List.take_length decide_true decide_false Int.lt_irrefl Int.le_refl beq_self_eq_true Nat.zero_add Nat.add_zero Nat.le_refl
end Go.Ag
