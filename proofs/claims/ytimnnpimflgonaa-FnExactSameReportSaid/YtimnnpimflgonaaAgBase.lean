/-
  SMALL LAWS on the abstract state's lists and on what a value stands for.
-/
import Derived.Test.YtimnnpimflgonaaAgRel
namespace Go.Ag

theorem get_put_same (s : List V) (n : Nat) (v : V) (h : n < s.length) : get (put s n v) n = v := by
  induction s generalizing n with
  | nil => simp at h
  | cons x r ih => cases n with
    | zero => rfl
    | succ n => exact ih n (by simpa using h)
theorem get_put_other (s : List V) (n m : Nat) (v : V) (h : m ≠ n) : get (put s n v) m = get s m := by
  induction s generalizing n m with
  | nil => rfl
  | cons x r ih => cases n with
    | zero => cases m with
      | zero => exact absurd rfl h
      | succ m => rfl
    | succ n => cases m with
      | zero => rfl
      | succ m => exact ih n m (by omega)
theorem get_ge (s : List V) (n : Nat) (h : s.length ≤ n) : get s n = .undef := by
  induction s generalizing n with
  | nil => rfl
  | cons x r ih => cases n with
    | zero => simp at h
    | succ n => exact ih n (by simpa using h)
@[simp] theorem length_put (s : List V) (n : Nat) (v : V) : (put s n v).length = s.length := by
  induction s generalizing n with
  | nil => rfl
  | cons x r ih => cases n with
    | zero => rfl
    | succ n => simp [put, ih]
theorem getB_eq (s : List (List V)) (n : Nat) : getB s n = s[n]?.getD [] := by
  induction s generalizing n with
  | nil => rfl
  | cons x r ih => cases n with
    | zero => rfl
    | succ n => simp [getB, ih]
@[simp] theorem length_putB (s : List (List V)) (n : Nat) (v : List V) : (putB s n v).length = s.length := by
  induction s generalizing n with
  | nil => rfl
  | cons x r ih => cases n with
    | zero => rfl
    | succ n => simp [putB, ih]
theorem putB_get (s : List (List V)) (n m : Nat) (v : List V) : (putB s n v)[m]? = if m = n ∧ n < s.length then some v else s[m]? := by
  induction s generalizing n m with
  | nil => simp [putB]
  | cons x r ih => cases n with
    | zero => cases m <;> simp [putB]
    | succ n => cases m with
      | zero => simp [putB]
      | succ m => simp [putB, ih]
@[simp] theorem length_clearBox (i : Nat) (s : List V) : (clearBox i s).length = s.length := by
  induction s with
  | nil => rfl
  | cons x r ih => simp [clearBox, ih]
theorem get_clearBox (i : Nat) (s : List V) (n : Nat) : get (clearBox i s) n = if (get s n).isBox i then .undef else get s n := by
  induction s generalizing n with
  | nil => simp [clearBox, get, V.isBox]
  | cons x r ih => cases n with
    | zero => rfl
    | succ n => exact ih n
@[simp] theorem length_keep (live : List Nat) (k : Nat) (s : List V) : (keep live k s).length = s.length := by
  induction s generalizing k with
  | nil => rfl
  | cons x r ih => simp [keep, ih]
theorem get_keep (live : List Nat) (k : Nat) (s : List V) (n : Nat) : get (keep live k s) n = .undef ∨ get (keep live k s) n = get s n := by
  induction s generalizing k n with
  | nil => exact .inl rfl
  | cons x r ih => cases n with
    | zero => simp only [keep, get]; split <;> simp
    | succ n => exact ih (k + 1) n
theorem splice_len : ∀ (cs : List V) (o : Nat) (vs : List V), (splice cs o vs).length = cs.length
  | cs, 0, [] => by cases cs <;> rfl
  | [], 0, _ :: _ => rfl
  | _ :: r, 0, v :: vs => by simp [splice, splice_len r 0 vs]
  | [], _ + 1, _ => rfl
  | c :: r, n + 1, vs => by simp [splice, splice_len r n vs]
theorem splice_get : ∀ (cs : List V) (o : Nat) (vs : List V) (j : Nat), o + vs.length ≤ cs.length → (splice cs o vs)[j]? = if o ≤ j ∧ j < o + vs.length then vs[j - o]? else cs[j]?
  | cs, 0, [], j, _ => by cases cs <;> simp [splice]
  | [], 0, _ :: _, j, h => by simp at h
  | _ :: r, 0, v :: vs, j, h => by
    cases j with
    | zero => simp [splice]
    | succ j =>
      have := splice_get r 0 vs j (by simp at h ⊢; omega)
      simp [splice, this]
  | [], n + 1, vs, j, h => by simp at h
  | c :: r, n + 1, vs, j, h => by
    cases j with
    | zero => simp [splice]
    | succ j =>
      have := splice_get r n vs j (by simp at h ⊢; omega)
      simp only [splice, List.getElem?_cons_succ, this]
      by_cases hj : n ≤ j ∧ j < n + vs.length
      · rw [if_pos hj, if_pos (by omega)]
        congr 1; omega
      · rw [if_neg hj, if_neg (by omega)]

theorem rd_spec {h : Heap} {l o n : Nat} {cs : List V} (e : rd h l o n = some cs) : ∃ b, h[l]? = some b ∧ b.k ≠ .dead ∧ o + n ≤ b.cs.length ∧ cs = (b.cs.drop o).take n := by
  unfold rd at e
  cases hb : h[l]? with
  | none => simp [hb] at e
  | some b =>
    simp only [hb] at e
    split at e
    · rename_i hc; exact ⟨b, rfl, hc.1, hc.2, (Option.some.inj e).symm⟩
    · cases e
theorem take_drop_len {α : Type} {cs : List α} {o n : Nat} (h : o + n ≤ cs.length) : ((cs.drop o).take n).length = n := by
  simp; omega
theorem take_drop_get {α : Type} {cs : List α} {o n j : Nat} {v : α} (e : ((cs.drop o).take n)[j]? = some v) : j < n ∧ cs[o + j]? = some v := by
  rw [List.getElem?_take] at e
  split at e
  · rename_i hj; exact ⟨hj, by simpa using e⟩
  · cases e

/-! ### What a value stands for -/
section
variable {ι : Inj} {σ : Heap} {β : Nat → Nat}

theorem Rel.getU {sl : List V} {tmps : Array Value} (h : SRel ι σ β sl tmps) (n : Nat) : Rel ι σ β (get sl n) (tmps.getD n Go.undef) := h.2 n

/-- The cells of a value that may lie in memory. -/
theorem Rel.cells {v : V} {x : Value} (h : Rel ι σ β v x) (hk : v.cells.all V.cell = true) :
    x.cells.size = v.cells.length ∧ ∀ (i : Nat) u, v.cells[i]? = some u → u.cell = true ∧ ∃ y, x.cells[i]? = some y ∧ ∀ β', Rel ι σ β' u y := by
  have one : ∀ {v : V} {x : Value}, Rel ι σ β v x → v.cell = true → v.cells = [v] → x.cells = #[x] →
      x.cells.size = v.cells.length ∧ ∀ (i : Nat) u, v.cells[i]? = some u → u.cell = true ∧ ∃ y, x.cells[i]? = some y ∧ ∀ β', Rel ι σ β' u y := by
    intro v x h hc e1 e2
    rw [e1, e2]
    refine ⟨rfl, fun i u hu => ?_⟩
    cases i with
    | zero => simp at hu; subst hu; exact ⟨hc, x, rfl, fun β' => h.cellMono (.refl _ _) hc⟩
    | succ i => simp at hu
  cases h with
  | undef x => simp [V.cells, V.cell] at hk
  | bool b => exact one (.bool b) rfl rfl rfl
  | int k n => exact one (.int k n) rfl rfl rfl
  | str s => exact one (.str s) rfl rfl rfl
  | nils a => exact one (.nils a) rfl rfl rfl
  | slice l o n c blk h hn hc => exact one (.slice l o n c blk h hn hc) rfl rfl rfl
  | sliceEnd l o blk h a => exact one (.sliceEnd l o blk h a) rfl rfl rfl
  | box i o => simp [V.cells, V.cell] at hk
  | ptr l o blk h => exact one (.ptr l o blk h) rfl rfl rfl
  | nilIfc => exact one .nilIfc rfl rfl rfl
  | ifc t v => exact one (.ifc t v) rfl rfl rfl
  | agg cs ws hl hc h =>
    refine ⟨by simp [V.cells, Value.cells, hl], fun i u hu => ?_⟩
    have hu' : cs[i]? = some u := hu
    have hi : i < ws.length := by rw [← hl]; exact (List.getElem?_eq_some_iff.1 hu').1
    have hw : ws[i]? = some ws[i] := List.getElem?_eq_getElem hi
    have huc := hc u (List.mem_of_getElem? hu')
    exact ⟨huc, ws[i], by simp [Value.cells], fun β' => (h i u _ hu' hw).cellMono (.refl _ _) huc⟩
  | tup cs ws hl hc h => simp [V.cells, V.cell] at hk

theorem rel_int {k : IntKind} {n : Int} {x : Value} (h : Rel ι σ β (.int k n) x) : x = .int k n := by cases h; rfl
theorem rel_bool {b : Bool} {x : Value} (h : Rel ι σ β (.bool b) x) : x = .bool b := by cases h; rfl
theorem rel_str {s : List UInt8} {x : Value} (h : Rel ι σ β (.str s) x) : x = .string ⟨s.toArray⟩ := by cases h; rfl
theorem rel_nils {x : Value} (h : Rel ι σ β .nils x) : ∃ a, x = .slice a 0 0 := by cases h; exact ⟨_, rfl⟩
theorem rel_box {i o : Nat} {x : Value} (h : Rel ι σ β (.box i o) x) : x = .pointer (some ⟨β i, o, none⟩) := by cases h; rfl
theorem rel_ptr {l o : Nat} {x : Value} (h : Rel ι σ β (.ptr l o) x) : (∃ blk, σ[l]? = some blk) ∧ x = .pointer (some ⟨(ι l).b, (ι l).o + o, none⟩) := by cases h; exact ⟨⟨_, ‹_›⟩, rfl⟩
theorem rel_slice {l o n : Nat} {x : Value} (h : Rel ι σ β (.slice l o n) x) : ∃ blk, σ[l]? = some blk ∧
    ((∃ c, x = .slice (some ⟨(ι l).b, (ι l).o + o, none⟩) n c ∧ n ≤ c ∧ o + c * blk.w ≤ (ι l).c) ∨ (n = 0 ∧ ∃ a, x = .slice a 0 0)) := by
  cases h with
  | slice l o n c blk h hn hc => exact ⟨blk, h, .inl ⟨c, rfl, hn, hc⟩⟩
  | sliceEnd l o blk h a => exact ⟨blk, h, .inr ⟨rfl, a, rfl⟩⟩
theorem rel_agg {cs : List V} {x : Value} (h : Rel ι σ β (.agg cs) x) : ∃ ws : List Value, x = .agg ws.toArray ∧ cs.length = ws.length ∧ (∀ v, v ∈ cs → v.cell = true) ∧ ∀ (i : Nat) v w, cs[i]? = some v → ws[i]? = some w → Rel ι σ β v w := by
  cases h; exact ⟨_, rfl, ‹_›, ‹_›, ‹_›⟩
theorem rel_tup {cs : List V} {x : Value} (h : Rel ι σ β (.tup cs) x) : ∃ ws : List Value, x = .tuple ws.toArray ∧ cs.length = ws.length ∧ (∀ v, v ∈ cs → v.ok1 = true) ∧ ∀ (i : Nat) v w, cs[i]? = some v → ws[i]? = some w → Rel ι σ β v w := by
  cases h; exact ⟨_, rfl, ‹_›, ‹_›, ‹_›⟩

/-- Cells that stand for cells make one value of one or of several cells. -/
theorem rel_aggOr {n : Option Nat} {cs : List V} {v : V} {ws : List Value} (e : aggOr n cs = some v) (hl : cs.length = ws.length) (hk : ∀ v, v ∈ cs → v.cell = true)
    (h : ∀ (i : Nat) v w, cs[i]? = some v → ws[i]? = some w → Rel ι σ β v w) : (n.isSome = true ∧ Rel ι σ β v (.agg ws.toArray)) ∨ (n = none ∧ ∃ x, ws = [x] ∧ Rel ι σ β v x) := by
  cases n with
  | some m => simp [aggOr] at e; subst e; exact .inl ⟨rfl, .agg cs ws hl hk h⟩
  | none =>
    match cs, ws, hl with
    | [c], [x], _ => simp [aggOr] at e; subst e; exact .inr ⟨rfl, x, rfl, h 0 c x rfl rfl⟩
    | [], [], _ => simp [aggOr] at e
    | _ :: _ :: _, _, _ => simp [aggOr] at e
end

/-! ### Constants, operands -/

def okConst : Value → V → Bool
  | .bool a, .bool b => a == b
  | .int k a, .int k' b => k == k' && a == b
  | .string s, .str t => s.data.toList == t
  | .slice none 0 0, .nils => true
  | .nilIface, .ifc true => true
  | _, _ => false
def okX : Operand → Opnd → Bool
  | .tmp a, .t b => a == b
  | .const _, .c .undef => true
  | .const v, .c u => okConst v u
  | _, _ => false
def okXs : List Operand → List Opnd → Bool
  | [], [] => true
  | x :: r, y :: s => okX x y && okXs r s
  | _, _ => false
def okCells : List Value → List V → Bool
  | [], [] => true
  | x :: r, y :: s => okConst x y && okCells r s
  | _, _ => false
theorem okConst_rel {x : Value} {v : V} (h : okConst x v = true) (ι : Inj) (σ : Heap) (β : Nat → Nat) : Rel ι σ β v x := by
  unfold okConst at h
  split at h
  · simp at h; subst h; exact .bool _
  · simp at h; obtain ⟨rfl, rfl⟩ := h; exact .int _ _
  · rename_i s t
    simp at h; subst h; exact .str _
  · exact .nils _
  · exact .nilIfc
  · cases h
theorem okConst_cell {x : Value} {v : V} (h : okConst x v = true) : v.cell = true := by
  unfold okConst at h
  split at h <;> first | rfl | cases h
theorem okX_rel {x : Operand} {y : Opnd} (h : okX x y = true) {ι : Inj} {σ : Heap} {β : Nat → Nat} {sl : List V} {a : Act} (hs : SRel ι σ β sl a.tmps) : Rel ι σ β (y.ev sl) (a.eval x) := by
  unfold okX at h
  split at h
  · simp at h; subst h; exact hs.2 _
  · exact .undef _
  · exact okConst_rel h _ _ _
  · cases h
theorem okCells_len {xs : List Value} {vs : List V} (h : okCells xs vs = true) : vs.length = xs.length := by
  induction xs generalizing vs with
  | nil => cases vs with
    | nil => rfl
    | cons => simp [okCells] at h
  | cons x r ih => cases vs with
    | nil => simp [okCells] at h
    | cons y s => simp [okCells] at h; simp [ih h.2]
theorem okCells_get {xs : List Value} {vs : List V} (h : okCells xs vs = true) (i : Nat) (v : V) (hv : vs[i]? = some v) : ∃ x, xs[i]? = some x ∧ okConst x v = true := by
  induction xs generalizing vs i with
  | nil => cases vs with
    | nil => simp at hv
    | cons => simp [okCells] at h
  | cons x r ih => cases vs with
    | nil => simp at hv
    | cons y s =>
      simp [okCells] at h
      cases i with
      | zero => simp at hv; subst hv; exact ⟨x, rfl, h.1⟩
      | succ i => simpa using ih h.2 i hv

end Go.Ag
