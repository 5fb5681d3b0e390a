/-
  EACH OPERATION THAT IS NO CALL does in the model what its abstract step says: first those that only compute.
-/
import Derived.Test.YtimnnpimflgonaaAgBase
namespace Go.Ag

section
variable {P : Program} {w : World}
theorem r_underlying {t : TypeId} {d : TypeDesc} (h : P.underlying t = some d) : (underlying t).run P w = .ok d w := by simp [underlying, h]
theorem r_info {t : TypeId} {i : TypeInfo} (h : P.info? t = some i) : (typeInfo t).run P w = .ok i w := by simp [typeInfo, h]
theorem r_size {t : TypeId} {i : TypeInfo} (h : P.info? t = some i) : (sizeOf t).run P w = .ok i.size w := by simp [sizeOf, r_info h]
theorem r_zero {t : TypeId} {i : TypeInfo} {z : Value} (h : P.info? t = some i) (hz : i.zero = some z) : (zeroValue t).run P w = .ok z w := by simp [zeroValue, r_info h, hz]
def isAggD : TypeDesc → Bool
  | .struct _ | .array _ _ => true
  | _ => false
theorem r_isAgg {t : TypeId} {d : TypeDesc} (h : P.underlying t = some d) : (isAgg t).run P w = .ok (isAggD d) w := by
  simp only [isAgg, Sem.run_bind, r_underlying h, Result.andThen_ok]
  cases d <;> rfl
end

/-- A variable of one cell ('none') or of n cells ('some n'). -/
def okVar (P : Program) (t : TypeId) (n : Option Nat) : Bool :=
  match P.underlying t, P.info? t with
  | some d, some i => (match n with | some m => isAggD d && i.size == m | none => !isAggD d && i.size == 1)
  | _, _ => false
theorem okVar_spec {P : Program} {t : TypeId} {n : Option Nat} (h : okVar P t n = true) : ∃ d i, P.underlying t = some d ∧ P.info? t = some i ∧ isAggD d = n.isSome ∧ i.size = n.getD 1 := by
  unfold okVar at h
  split at h
  · rename_i d i hd hi
    refine ⟨d, i, hd, hi, ?_⟩
    cases n with
    | some m => simp at h; exact ⟨h.1, h.2⟩
    | none => simp at h; exact ⟨h.1, h.2⟩
  · cases h

/-- A slice's element: how many cells, how many bytes. -/
def elemOK (P : Program) (t : TypeId) (w : Nat) : Bool :=
  match P.underlying t with
  | some (.slice e) => (match P.info? e with | some i => (match i.zero with | some z => i.size == w && i.bytes ≤ 128 && z.cells.size == w | none => false) | none => false)
  | _ => false
theorem elemOK_spec {P : Program} {t : TypeId} {w : Nat} (h : elemOK P t w = true) : ∃ e i z, P.underlying t = some (.slice e) ∧ P.info? e = some i ∧ i.size = w ∧ i.bytes ≤ 128 ∧ i.zero = some z ∧ z.cells.size = w := by
  unfold elemOK at h
  split at h
  · rename_i e he
    split at h
    · rename_i i hi
      split at h
      · rename_i z hz
        simp at h
        exact ⟨e, i, z, he, hi, h.1.1, h.1.2, hz, h.2⟩
      · cases h
    · cases h
  · cases h

/-- Where a field lies. -/
def fieldOK (P : Program) (t : TypeId) (f off : Nat) (n : Option Nat) : Bool :=
  match P.underlying t with
  | some (.struct fs) => (match fs[f]? with | some g => g.offset == off && okVar P g.type n && n != some 0 | none => false)
  | _ => false
theorem fieldOK_spec {P : Program} {t : TypeId} {f off : Nat} {n : Option Nat} (h : fieldOK P t f off n = true) :
    ∃ (fs : Array Field) (g : Field), P.underlying t = some (.struct fs) ∧ fs[f]? = some g ∧ g.offset = off ∧ okVar P g.type n = true ∧ n ≠ some 0 := by
  unfold fieldOK at h
  split at h
  · rename_i fs hf
    split at h
    · rename_i g hg
      simp at h
      exact ⟨fs, g, hf, hg, h.1.1, h.1.2, h.2⟩
    · cases h
  · cases h

theorem run_binInt {P : Program} {w : World} {v : V} {op : BinOp} {k : IntKind} {m n : Int} {t : TypeId} (hop : op ≠ .shl ∧ op ≠ .shr) (e : binInt op k m n = some v) : ∃ x, (binOp op t (.int k m) (.int k n)).run P w = .ok x w ∧ ∀ ι σ β, Rel ι σ β v x := by
  cases op
  case shl => exact absurd rfl hop.1
  case shr => exact absurd rfl hop.2
  case quo =>
    by_cases hn : n = 0
    · simp [binInt, hn] at e
    · simp only [binInt, if_neg hn] at e
      cases e
      exact ⟨.int k (k.wrap (m.tdiv n)), by simp [binOp, Op.intDiv, hn], fun _ _ _ => .int _ _⟩
  case rem =>
    by_cases hn : n = 0
    · simp [binInt, hn] at e
    · simp only [binInt, if_neg hn] at e
      cases e
      exact ⟨.int k (m.tmod n), by simp [binOp, Op.intDiv, hn], fun _ _ _ => .int _ _⟩
  all_goals cases e
  case and => exact ⟨.int k (k.wrap (BitVec.ofInt k.bits m &&& BitVec.ofInt k.bits n).toNat), by simp only [binOp, ne_eq, not_true_eq_false, if_false]; rfl, fun _ _ _ => .int _ _⟩
  case or => exact ⟨.int k (k.wrap (BitVec.ofInt k.bits m ||| BitVec.ofInt k.bits n).toNat), by simp only [binOp, ne_eq, not_true_eq_false, if_false]; rfl, fun _ _ _ => .int _ _⟩
  case xor => exact ⟨.int k (k.wrap (BitVec.ofInt k.bits m ^^^ BitVec.ofInt k.bits n).toNat), by simp only [binOp, ne_eq, not_true_eq_false, if_false]; rfl, fun _ _ _ => .int _ _⟩
  case andNot => exact ⟨.int k (k.wrap (BitVec.ofInt k.bits m &&& ~~~BitVec.ofInt k.bits n).toNat), by simp only [binOp, ne_eq, not_true_eq_false, if_false]; rfl, fun _ _ _ => .int _ _⟩
  all_goals first
    | exact ⟨_, by simp only [binOp, ne_eq, not_true_eq_false, if_false]; rfl, fun _ _ _ => .int _ _⟩
    | exact ⟨_, by simp only [binOp, ne_eq, not_true_eq_false, if_false]; rfl, fun _ _ _ => .bool _⟩

theorem run_equal_bool {P : Program} {w : World} {t : TypeId} {x y : Bool} (h : P.underlying t = some .bool) : (Op.equal t (.bool x) (.bool y)).run P w = .ok (x == y) w := by
  unfold Op.equal Op.maxDepth
  exact run_equalIn_bool' w 9999 t x y h

theorem okX_nil {y : Operand} (h : okX y (.c (.ifc true)) = true) : y = .const .nilIface := by
  cases y with
  | const v => cases v <;> first | rfl | simp [okX, okConst] at h
  | tmp t => simp [okX] at h
  | global g => simp [okX] at h
  | func f => simp [okX] at h
theorem rel_ifc {ι : Inj} {σ : Heap} {β : Nat → Nat} {p : Bool} {x : Value} (h : Rel ι σ β (.ifc p) x) : (p = true ∧ x = .nilIface) ∨ (p = false ∧ ∃ t u, x = .iface t u) := by
  cases h
  · exact .inl ⟨rfl, rfl⟩
  · exact .inr ⟨rfl, _, _, rfl⟩
theorem run_builtin {P : Program} {w : World} {o : Oper} {a : Act} {c : Call} {b : Builtin} (ho : o.op = .call c) (hc : c.callee = .builtin b) :
    (execOp a.eval o).run P w = (builtin b c.argTypes o.type (c.args.map fun | .const _ => true | _ => false) (c.args.map a.eval)).run P w := by
  simp only [execOp, ho, resolve, hc]
  rfl

/-- What one operation comes to. -/
def Out (P : Program) (o : Oper) (a : Act) (ι0 : Inj) (σ0 : Heap) (w0 w : World) (sl : List V) (v : V) (bx : List (List V)) (hp : Heap) : Prop :=
  ∃ nx x w' ι' β', (execOp a.eval o).run P w = .ok nx w' ∧ (nx = .value x ∨ (nx = .skip ∧ x = Go.undef)) ∧ HRel ι' hp w' ∧ BRel ι' hp β' bx w0 w' ∧
    SRel ι' hp β' sl a.tmps ∧ Rel ι' hp β' v x ∧ Step ι0 σ0 w0 ι' hp w'

section
variable {P : Program} {o : Oper} {a : Act} {ι : Inj} {β : Nat → Nat} {st : St} {w0 w : World} {v : V} {bx : List (List V)} {hp : Heap}
  (H : HRel ι st.hp w) (B : BRel ι st.hp β st.bx w0 w) (S : SRel ι st.hp β st.sl a.tmps) {ι0 : Inj} {σ0 : Heap} (T : Step ι0 σ0 w0 ι st.hp w)
include H B S T

theorem Out.pure {x : Value} (hr : (execOp a.eval o).run P w = .ok (.value x) w) (hx : Rel ι st.hp β v x) (e : some (v, st.bx, st.hp) = some (v, bx, hp)) : Out P o a ι0 σ0 w0 w st.sl v bx hp := by
  cases e
  exact ⟨_, x, w, ι, β, hr, .inl rfl, H, B, S, hx, T⟩

theorem op_mv {x : Operand} {y : Opnd} (ho : o.op = .move x ∨ o.op = .assign x) (hk : okX x y = true) (e : stepV (.mv y) st = some (v, bx, hp)) : Out P o a ι0 σ0 w0 w st.sl v bx hp := by
  simp [stepV] at e
  obtain ⟨rfl, rfl, rfl⟩ := e
  refine Out.pure H B S T (x := a.eval x) ?_ (okX_rel hk S) rfl
  rcases ho with ho | ho <;> simp [execOp, ho]

theorem op_nilck {x : Operand} {y : Opnd} (ho : o.op = .nilCheck x) (hk : okX x y = true) (e : stepV (.nilck y) st = some (v, bx, hp)) : Out P o a ι0 σ0 w0 w st.sl v bx hp := by
  have hx := okX_rel hk S
  simp only [stepV] at e
  split at e
  · rename_i i q hq
    rw [hq] at hx
    have := rel_box hx
    cases e
    exact Out.pure H B S T (x := a.eval x) (by simp [execOp, ho, this]) hx rfl
  · rename_i i q hq
    rw [hq] at hx
    have := (rel_ptr hx).2
    cases e
    exact Out.pure H B S T (x := a.eval x) (by simp [execOp, ho, this]) hx rfl
  · cases e

theorem op_pick {c x y : Operand} {c' x' y' : Opnd} (ho : o.op = .pick c x y) (hc : okX c c' = true) (hx : okX x x' = true) (hy : okX y y' = true) (e : stepV (.pick c' x' y') st = some (v, bx, hp)) : Out P o a ι0 σ0 w0 w st.sl v bx hp := by
  have rc := okX_rel hc S
  simp only [stepV] at e
  split at e
  · rename_i t ht
    rw [ht] at rc
    have ec := rel_bool rc
    cases e
    refine Out.pure H B S T (x := if t then a.eval x else a.eval y) (by simp [execOp, ho, ec, asBool]) ?_ rfl
    cases t
    · exact okX_rel hy S
    · exact okX_rel hx S
  · cases e

theorem op_un {x : Operand} {x' : Opnd} {op : UnOp} {t : TypeId} (ho : o.op = .unOp op t x) (hk : okX x x' = true) (e : stepV (.un op x') st = some (v, bx, hp)) : Out P o a ι0 σ0 w0 w st.sl v bx hp := by
  have hx := okX_rel hk S
  simp only [stepV, unop] at e
  split at e
  · rename_i b hb
    rw [hb] at hx
    have := rel_bool hx
    simp at e
    obtain ⟨rfl, rfl, rfl⟩ := e
    exact Out.pure H B S T (x := .bool (!b)) (by simp [execOp, ho, this, Op.unary]) (.bool _) rfl
  · rename_i k n hb
    rw [hb] at hx
    have := rel_int hx
    simp at e
    obtain ⟨rfl, rfl, rfl⟩ := e
    exact Out.pure H B S T (x := .int k (k.wrap (0 - n))) (by simp [execOp, ho, this, Op.unary, Op.intArith]) (by simpa using Rel.int k (k.wrap (0 - n))) rfl
  · simp at e

theorem op_bin {op : BinOp} {t u : TypeId} {x y : Operand} {x' y' : Opnd} (ho : o.op = .binOp op t x y u) (hx : okX x x' = true) (hy : okX y y' = true) (e : stepV (.bin op x' y') st = some (v, bx, hp)) : Out P o a ι0 σ0 w0 w st.sl v bx hp := by
  have rx := okX_rel hx S
  have ry := okX_rel hy S
  simp only [stepV, Option.bind_eq_some_iff] at e
  obtain ⟨r, e1, e2⟩ := e
  cases e2
  suffices h : ∃ z, (execOp a.eval o).run P w = .ok (.value z) w ∧ Rel ι st.hp β v z by
    obtain ⟨z, h1, h2⟩ := h
    exact Out.pure H B S T h1 h2 rfl
  unfold binop at e1
  split at e1
  · rename_i k m k' n hxe hye
    rw [hxe] at rx; rw [hye] at ry
    have ex := rel_int rx
    have ey := rel_int ry
    have go : ∀ z, (binOp op t (.int k m) (.int k' n)).run P w = .ok z w → (∀ ι σ β, Rel ι σ β v z) → ∃ z, (execOp a.eval o).run P w = .ok (.value z) w ∧ Rel ι st.hp β v z := by
      intro z h1 h2
      refine ⟨z, ?_, h2 _ _ _⟩
      have hg : (eqGuard op t x y (.int k m) (.int k' n)).run P w = .ok () w := by
        unfold eqGuard; cases op <;> rfl
      simp only [execOp, ho, ex, ey, Sem.run_bind, hg, h1, Result.andThen_ok]
      rfl
    have sh : ∀ (hop : op = .shl ∨ op = .shr), shiftInt op k m n = some v → ∃ z, (execOp a.eval o).run P w = .ok (.value z) w ∧ Rel ι st.hp β v z := by
      intro hop e1
      unfold shiftInt at e1
      split at e1
      · cases e1
      · rename_i hn
        rcases hop with rfl | rfl
        · cases e1
          exact go (.int k (k.wrap (m * 2 ^ min n.toNat k.bits))) (by simp [binOp, Op.shift, hn]) fun _ _ _ => .int _ _
        · cases e1
          exact go (.int k (m.fdiv (2 ^ min n.toNat k.bits))) (by simp [binOp, Op.shift, hn]) fun _ _ _ => .int _ _
    split at e1
    · exact sh (.inl rfl) e1
    · exact sh (.inr rfl) e1
    · rename_i h1 h2
      by_cases hk : k = k'
      · subst hk
        simp only [if_true] at e1
        obtain ⟨z, g1, g2⟩ := run_binInt (P := P) (w := w) (t := t) ⟨h1, h2⟩ e1
        exact go z g1 g2
      · simp [hk] at e1
  · rename_i s1 s2 hxe hye
    rw [hxe] at rx; rw [hye] at ry
    have ex := rel_str rx
    have ey := rel_str ry
    have hg : (eqGuard op t x y (.string ⟨s1.toArray⟩) (.string ⟨s2.toArray⟩)).run P w = .ok () w := by
      unfold eqGuard; cases op <;> rfl
    have go : ∀ z, (Op.stringOp op ⟨s1.toArray⟩ ⟨s2.toArray⟩).run P w = .ok z w → Rel ι st.hp β v z → ∃ z, (execOp a.eval o).run P w = .ok (.value z) w ∧ Rel ι st.hp β v z := by
      intro z h1 h2
      refine ⟨z, ?_, h2⟩
      have hb : binOp op t (.string ⟨s1.toArray⟩) (.string ⟨s2.toArray⟩) = Op.stringOp op ⟨s1.toArray⟩ ⟨s2.toArray⟩ := by simp [binOp]
      simp only [execOp, ho, ex, ey, Sem.run_bind, hg, hb, h1, Result.andThen_ok]
      rfl
    split at e1
    · split at e1
      · rename_i hl
        cases e1
        refine go (.string ⟨(s1 ++ s2).toArray⟩) ?_ (.str _)
        rw [run_string_add_sum w _ _ (by simpa [ByteArray.size] using hl), ByteArray.mk_append_mk]
      · cases e1
    · cases e1
      exact go (.bool (s1 == s2)) (by simp [Op.stringOp]) (.bool _)
    · cases e1
      exact go (.bool (!(s1 == s2))) (by simp [Op.stringOp]) (.bool _)
    · cases e1
  · cases e1


theorem op_eqB {op : BinOp} {t u : TypeId} {neg : Bool} {x y : Operand} {x' y' : Opnd} (ho : o.op = .binOp op t x y u) (hop : op = if neg then .neq else .eql) (ht : P.underlying t = some .bool)
    (hx : okX x x' = true) (hy : okX y y' = true) (e : stepV (.eqB neg x' y') st = some (v, bx, hp)) : Out P o a ι0 σ0 w0 w st.sl v bx hp := by
  have rx := okX_rel hx S
  have ry := okX_rel hy S
  simp only [stepV] at e
  split at e
  · rename_i p q hxe hye
    rw [hxe] at rx; rw [hye] at ry
    have ex := rel_bool rx
    have ey := rel_bool ry
    cases e
    refine Out.pure H B S T (x := .bool (if neg = true then !(p == q) else p == q)) ?_ (.bool _) rfl
    have hg : (eqGuard op t x y (.bool p) (.bool q)).run P w = .ok () w := by unfold eqGuard; cases op <;> rfl
    simp only [execOp, ho, ex, ey, Sem.run_bind, hg, Result.andThen_ok]
    cases neg
    · simp only [Bool.false_eq_true, if_false] at hop
      subst hop
      simp [binOp, run_equal_bool ht]
    · simp only [if_true] at hop
      subst hop
      simp [binOp, run_equal_bool ht]
  · cases e

theorem op_eqN {op : BinOp} {t u : TypeId} {neg : Bool} {x y : Operand} {x' y' : Opnd} {ms : Array (String × TypeId)} (ho : o.op = .binOp op t x y u) (hop : op = if neg then .neq else .eql) (ht : P.underlying t = some (.interface ms))
    (hx : okX x x' = true) (hy : okX y y' = true) (e : stepV (.eqN neg x' y') st = some (v, bx, hp)) : Out P o a ι0 σ0 w0 w st.sl v bx hp := by
  have rx := okX_rel hx S
  simp only [stepV] at e
  split at e
  · rename_i p hxe
    rw [hxe] at rx
    cases e
    have ey := okX_nil hy
    subst ey
    refine Out.pure H B S T (x := .bool (if neg = true then !p else p)) ?_ (.bool _) rfl
    have ee : a.eval (.const .nilIface) = .nilIface := rfl
    rcases rel_ifc rx with ⟨rfl, ex⟩ | ⟨rfl, tt, vv, ex⟩
    · have hg : (eqGuard op t x (.const .nilIface) .nilIface .nilIface).run P w = .ok () w := by unfold eqGuard; cases op <;> simp
      have hq : (Op.equal t .nilIface .nilIface).run P w = .ok true w := by unfold Op.equal Op.maxDepth Op.equalIn; simp [r_underlying ht]
      simp only [execOp, ho, ex, ee, Sem.run_bind, hg, Result.andThen_ok]
      cases neg
      · simp only [Bool.false_eq_true, if_false] at hop
        subst hop
        simp [binOp, hq]
      · simp only [if_true] at hop
        subst hop
        simp [binOp, hq]
    · have hg : (eqGuard op t x (.const .nilIface) (.iface tt vv) .nilIface).run P w = .ok () w := by unfold eqGuard; cases op <;> simp
      have hq : (Op.equal t (.iface tt vv) .nilIface).run P w = .ok false w := by unfold Op.equal Op.maxDepth Op.equalIn; simp [r_underlying ht]
      simp only [execOp, ho, ex, ee, Sem.run_bind, hg, Result.andThen_ok]
      cases neg
      · simp only [Bool.false_eq_true, if_false] at hop
        subst hop
        simp [binOp, hq]
      · simp only [if_true] at hop
        subst hop
        simp [binOp, hq]
  · cases e

theorem op_conv {s d : TypeId} {k : IntKind} {x : Operand} {x' : Opnd} (ho : o.op = .convert s d x) (hs : (P.underlying s).isSome = true) (hd : P.underlying d = some (.int k)) (hx : okX x x' = true)
    (e : stepV (.conv k x') st = some (v, bx, hp)) : Out P o a ι0 σ0 w0 w st.sl v bx hp := by
  have rx := okX_rel hx S
  obtain ⟨ds, hs⟩ := Option.isSome_iff_exists.1 hs
  simp only [stepV] at e
  split at e
  · rename_i k' n hxe
    rw [hxe] at rx
    have ex := rel_int rx
    cases e
    exact Out.pure H B S T (x := .int k (k.wrap n)) (by simp [execOp, ho, ex, convert, r_underlying hs, r_underlying hd, Conv.intToInt]) (.int _ _) rfl
  · cases e

theorem op_lenS {c : Call} {t tt : TypeId} {x : Operand} {x' : Opnd} (ho : o.op = .call c) (hc : c.callee = .builtin .len) (hargs : c.args = #[x]) (hts : c.argTypes = #[t]) (ht : P.underlying t = some (.slice tt))
    (hx : okX x x' = true) (e : stepV (.len x') st = some (v, bx, hp)) : Out P o a ι0 σ0 w0 w st.sl v bx hp := by
  have rx := okX_rel hx S
  have go : ∀ (b : Option Addr) (n c' : Nat), a.eval x = .slice b n c' → (execOp a.eval o).run P w = .ok (.value (.int .i64 n)) w := by
    intro b n c' ex
    rw [run_builtin ho hc]; simp [builtin, Builtin.len_, hargs, hts, ex, r_underlying ht, goInt]
  simp only [stepV] at e
  split at e
  · rename_i hxe
    rw [hxe] at rx
    obtain ⟨b, ex⟩ := rel_nils rx
    cases e
    exact Out.pure H B S T (x := .int .i64 0) (by simpa using go b 0 0 ex) (.int _ _) rfl
  · rename_i l q n hxe
    rw [hxe] at rx
    obtain ⟨blk, hb, h⟩ := rel_slice rx
    cases e
    rcases h with ⟨c', ex, _⟩ | ⟨rfl, b, ex⟩
    · exact Out.pure H B S T (x := .int .i64 n) (go _ n c' ex) (.int _ _) rfl
    · exact Out.pure H B S T (x := .int .i64 (0 : Nat)) (go b 0 0 ex) (.int _ _) rfl
  · cases e

theorem op_lenT {c : Call} {t : TypeId} {x : Operand} {x' : Opnd} (ho : o.op = .call c) (hc : c.callee = .builtin .len) (hargs : c.args = #[x]) (hts : c.argTypes = #[t]) (ht : P.underlying t = some .string)
    (hx : okX x x' = true) (e : stepV (.lenT x') st = some (v, bx, hp)) : Out P o a ι0 σ0 w0 w st.sl v bx hp := by
  have rx := okX_rel hx S
  simp only [stepV] at e
  split at e
  · rename_i s hxe
    rw [hxe] at rx
    have ex := rel_str rx
    cases e
    have hz : (ByteArray.mk s.toArray).size = s.length := List.size_toArray
    exact Out.pure H B S T (x := .int .i64 s.length) (by rw [run_builtin ho hc]; simp [builtin, Builtin.len_, hargs, hts, ex, r_underlying ht, goInt, hz]) (.int _ _) rfl
  · cases e

theorem op_minI {c : Call} {x y : Operand} {x' y' : Opnd} (ho : o.op = .call c) (hc : c.callee = .builtin .min) (hargs : c.args = #[x, y]) (hx : okX x x' = true) (hy : okX y y' = true)
    (e : stepV (.minI x' y') st = some (v, bx, hp)) : Out P o a ι0 σ0 w0 w st.sl v bx hp := by
  have rx := okX_rel hx S
  have ry := okX_rel hy S
  simp only [stepV] at e
  split at e
  · rename_i m n hxe hye
    rw [hxe] at rx; rw [hye] at ry
    have ex := rel_int rx
    have ey := rel_int ry
    cases e
    exact Out.pure H B S T (x := .int .i64 (if n < m then n else m)) (by rw [run_builtin ho hc]; simp [builtin, Builtin.min_, Builtin.min2, hargs, ex, ey]) (.int _ _) rfl
  · cases e

theorem op_maxI {c : Call} {x y : Operand} {x' y' : Opnd} (ho : o.op = .call c) (hc : c.callee = .builtin .max) (hargs : c.args = #[x, y]) (hx : okX x x' = true) (hy : okX y y' = true)
    (e : stepV (.maxI x' y') st = some (v, bx, hp)) : Out P o a ι0 σ0 w0 w st.sl v bx hp := by
  have rx := okX_rel hx S
  have ry := okX_rel hy S
  simp only [stepV] at e
  split at e
  · rename_i m n hxe hye
    rw [hxe] at rx; rw [hye] at ry
    have ex := rel_int rx
    have ey := rel_int ry
    cases e
    exact Out.pure H B S T (x := .int .i64 (if n > m then n else m)) (by rw [run_builtin ho hc]; simp [builtin, Builtin.max_, Builtin.max2, hargs, ex, ey]) (.int _ _) rfl
  · cases e

theorem op_extract {x : Operand} {x' : Opnd} {i : Nat} (ho : o.op = .extract x i) (hx : okX x x' = true) (e : stepV (.extract x' i) st = some (v, bx, hp)) : Out P o a ι0 σ0 w0 w st.sl v bx hp := by
  have rx := okX_rel hx S
  simp only [stepV] at e
  split at e
  · rename_i vs hxe
    rw [hxe] at rx
    obtain ⟨ws, ex, hl, hk, h⟩ := rel_tup rx
    split at e
    · rename_i u hu
      cases e
      have hi : i < ws.length := by rw [← hl]; exact (List.getElem?_eq_some_iff.1 hu).1
      have hw : ws[i]? = some ws[i] := List.getElem?_eq_getElem hi
      exact Out.pure H B S T (x := ws[i]) (by simp [execOp, ho, ex, Instr.extract, hw]) (h i _ _ hu hw) rfl
    · cases e
  · cases e

end
end Go.Ag
