/-
  THE RELATION between the abstract state and the model's: where each abstract block lies ('Place'), what a value stands for ('Rel'), the heap ('HRel'), how one stands to a later one ('Step').
-/
import Derived.Test.YtimnnpimflgonaaAgDefs
import Derived.Orders
import Derived.Laws.AppendOwn
import Derived.Laws.MakeOwn
import Derived.Laws.Cells
import Derived.Laws.Strings
import Derived.Laws.StructEq
import Derived.Laws.Slices
import Derived.Laws.Concat
import Derived.Laws.BytesString
import Derived.Laws.Pointers
namespace Go.Ag

structure Place where
  b : Nat
  o : Nat
  c : Nat
abbrev Inj := Nat → Place

/-- A value stands for the model's value. -/
inductive Rel (ι : Inj) (σ : Heap) (β : Nat → Nat) : V → Value → Prop
  | undef (x : Value) : Rel ι σ β .undef x
  | bool (b : Bool) : Rel ι σ β (.bool b) (.bool b)
  | int (k : IntKind) (n : Int) : Rel ι σ β (.int k n) (.int k n)
  | str (s : List UInt8) : Rel ι σ β (.str s) (.string ⟨s.toArray⟩)
  | nils (a : Option Addr) : Rel ι σ β .nils (.slice a 0 0)
  | slice (l o n c : Nat) (blk : Blk) (h : σ[l]? = some blk) (hn : n ≤ c) (hc : o + c * blk.w ≤ (ι l).c) : Rel ι σ β (.slice l o n) (.slice (some ⟨(ι l).b, (ι l).o + o, none⟩) n c)
  | sliceEnd (l o : Nat) (blk : Blk) (h : σ[l]? = some blk) (a : Option Addr) : Rel ι σ β (.slice l o 0) (.slice a 0 0)
  | box (i o : Nat) : Rel ι σ β (.box i o) (.pointer (some ⟨β i, o, none⟩))
  | ptr (l o : Nat) (blk : Blk) (h : σ[l]? = some blk) : Rel ι σ β (.ptr l o) (.pointer (some ⟨(ι l).b, (ι l).o + o, none⟩))
  | nilIfc : Rel ι σ β (.ifc true) .nilIface
  | ifc (t : TypeId) (v : Value) : Rel ι σ β (.ifc false) (.iface t v)
  | agg (cs : List V) (ws : List Value) (hl : cs.length = ws.length) (hk : ∀ v, v ∈ cs → v.cell = true) (h : ∀ (i : Nat) v w, cs[i]? = some v → ws[i]? = some w → Rel ι σ β v w) : Rel ι σ β (.agg cs) (.agg ws.toArray)
  | tup (cs : List V) (ws : List Value) (hl : cs.length = ws.length) (hk : ∀ v, v ∈ cs → v.ok1 = true) (h : ∀ (i : Nat) v w, cs[i]? = some v → ws[i]? = some w → Rel ι σ β v w) : Rel ι σ β (.tup cs) (.tuple ws.toArray)

/-- Every block is there still, with the same width, at the same place. -/
structure Keeps (ι : Inj) (σ : Heap) (ι' : Inj) (σ' : Heap) : Prop where
  place : ∀ (l : Nat) (blk : Blk), σ[l]? = some blk → ι' l = ι l
  width : ∀ (l : Nat) (blk : Blk), σ[l]? = some blk → ∃ blk' : Blk, σ'[l]? = some blk' ∧ blk'.w = blk.w

theorem Keeps.refl (ι : Inj) (σ : Heap) : Keeps ι σ ι σ := ⟨fun _ _ _ => rfl, fun _ blk h => ⟨blk, h, rfl⟩⟩
theorem Keeps.trans {ι ι' ι'' : Inj} {σ σ' σ'' : Heap} (a : Keeps ι σ ι' σ') (b : Keeps ι' σ' ι'' σ'') : Keeps ι σ ι'' σ'' := by
  refine ⟨fun l blk h => ?_, fun l blk h => ?_⟩
  · obtain ⟨b1, h1, _⟩ := a.width l blk h
    rw [b.place l b1 h1, a.place l blk h]
  · obtain ⟨b1, h1, e1⟩ := a.width l blk h
    obtain ⟨b2, h2, e2⟩ := b.width l b1 h1
    exact ⟨b2, h2, e2.trans e1⟩

theorem Rel.mono {ι ι' : Inj} {σ σ' : Heap} {β β' : Nat → Nat} {v : V} {x : Value} (k : Keeps ι σ ι' σ') (hb : ∀ i o, v = .box i o → β' i = β i) (h : Rel ι σ β v x) : Rel ι' σ' β' v x := by
  induction h with
  | undef x => exact .undef x
  | bool b => exact .bool b
  | int k n => exact .int k n
  | str s => exact .str s
  | nils a => exact .nils a
  | slice l o n c blk h hn hc =>
    obtain ⟨b1, h1, e1⟩ := k.width l blk h
    have := Rel.slice (ι := ι') (σ := σ') (β := β') l o n c b1 h1 hn (by rw [k.place l blk h, e1]; exact hc)
    rwa [k.place l blk h] at this
  | sliceEnd l o blk h a =>
    obtain ⟨b1, h1, _⟩ := k.width l blk h
    exact .sliceEnd l o b1 h1 a
  | box i o => rw [← hb i o rfl]; exact .box i o
  | ptr l o blk h =>
    obtain ⟨b1, h1, _⟩ := k.width l blk h
    have := Rel.ptr (ι := ι') (σ := σ') (β := β') l o b1 h1
    rwa [k.place l blk h] at this
  | nilIfc => exact .nilIfc
  | ifc t v => exact .ifc t v
  | agg cs ws hl hk h ih =>
    refine .agg cs ws hl hk fun i v w hv hw => ih i v w hv hw ?_
    intro j o e; have := hk v (List.mem_of_getElem? hv); subst e; simp [V.cell] at this
  | tup cs ws hl hk h ih =>
    refine .tup cs ws hl hk fun i v w hv hw => ih i v w hv hw ?_
    intro j o e; have := hk v (List.mem_of_getElem? hv); subst e; simp [V.ok1, V.cell] at this

/-- A value of one cell does not hang on the boxes. -/
theorem Rel.cellMono {ι ι' : Inj} {σ σ' : Heap} {β β' : Nat → Nat} {v : V} {x : Value} (k : Keeps ι σ ι' σ') (hv : v.cell = true) (h : Rel ι σ β v x) : Rel ι' σ' β' v x :=
  h.mono k fun i o e => by subst e; simp [V.cell] at hv

/-- The abstract heap stands for a part of the world. -/
structure HRel (ι : Inj) (σ : Heap) (w : World) : Prop where
  cells : ∀ (l : Nat) (blk : Blk), σ[l]? = some blk → blk.k ≠ .dead → ∀ (i : Nat) v, blk.cs[i]? = some v → v.cell = true ∧ ∃ x, w.cell? ⟨(ι l).b, (ι l).o + i, none⟩ = some x ∧ ∀ β, Rel ι σ β v x
  own : ∀ (l : Nat) (blk : Blk), σ[l]? = some blk → blk.k = .own → (ι l).o = 0 ∧ blk.cs.length ≤ (ι l).c ∧ ∃ arr e, w.heap[(ι l).b]? = some (.cells arr e (0, 0)) ∧ arr.size = (ι l).c
  apart : ∀ (l l' : Nat) (blk blk' : Blk), l ≠ l' → σ[l]? = some blk → σ[l']? = some blk' → blk.k = .own → blk'.k ≠ .dead → (ι l).b ≠ (ι l').b
  there : ∀ (l : Nat) (blk : Blk), σ[l]? = some blk → blk.k ≠ .dead → (ι l).b < w.heap.size

/-- What a stretch of the run does, seen from outside. -/
structure Step (ι : Inj) (σ : Heap) (w : World) (ι' : Inj) (σ' : Heap) (w' : World) : Prop where
  keeps : Keeps ι σ ι' σ'
  kinds : ∀ (l : Nat) (blk blk' : Blk), σ[l]? = some blk → σ'[l]? = some blk' → blk'.k = blk.k ∨ (blk.k = .own ∧ blk'.k = .dead)
  fresh : ∀ (l : Nat) (blk' : Blk), σ.length ≤ l → σ'[l]? = some blk' → blk'.k ≠ .dead → blk'.k = .own ∧ (w.heap.size ≤ (ι' l).b ∨ ∃ (l0 : Nat) (blk0 : Blk), σ[l0]? = some blk0 ∧ blk0.k = .own ∧ (ι l0).b = (ι' l).b)
  frame : ∀ b, b < w.heap.size → (∀ (l : Nat) (blk : Blk), σ[l]? = some blk → blk.k = .own → (ι l).b ≠ b) → w'.heap[b]? = w.heap[b]?
  size : w.heap.size ≤ w'.heap.size
  os : w'.os = w.os
  output : w'.output = w.output
  tape : w'.tape = w.tape

theorem Step.refl (ι : Inj) (σ : Heap) (w : World) : Step ι σ w ι σ w where
  keeps := .refl ι σ
  kinds l blk blk' h h' := .inl (by rw [h] at h'; cases h'; rfl)
  fresh l blk' hl h := by rw [List.getElem?_eq_none hl] at h; cases h
  frame _ _ _ := rfl
  size := Nat.le_refl _
  os := rfl
  output := rfl
  tape := rfl

theorem get_len {σ : Heap} {l : Nat} {blk : Blk} (h : σ[l]? = some blk) : l < σ.length := by
  rcases Nat.lt_or_ge l σ.length with h1 | h1
  · exact h1
  · rw [List.getElem?_eq_none h1] at h; cases h
theorem get_some {σ : Heap} {l : Nat} (h : l < σ.length) : ∃ blk, σ[l]? = some blk := ⟨_, List.getElem?_eq_getElem h⟩

theorem Step.trans {ι ι' ι'' : Inj} {σ σ' σ'' : Heap} {w w' w'' : World} (a : Step ι σ w ι' σ' w') (b : Step ι' σ' w' ι'' σ'' w'') : Step ι σ w ι'' σ'' w'' where
  keeps := a.keeps.trans b.keeps
  kinds l blk blk'' h h'' := by
    obtain ⟨blk', h', _⟩ := a.keeps.width l blk h
    rcases a.kinds l blk blk' h h' with e | ⟨e1, e2⟩
    · rcases b.kinds l blk' blk'' h' h'' with f | ⟨f1, f2⟩
      · exact .inl (f.trans e)
      · exact .inr ⟨e ▸ f1, f2⟩
    · rcases b.kinds l blk' blk'' h' h'' with f | ⟨f1, f2⟩
      · exact .inr ⟨e1, f.trans e2⟩
      · rw [e2] at f1; cases f1
  fresh l blk'' hl h'' hd := by
    by_cases hl' : l < σ'.length
    · obtain ⟨blk', h'⟩ := get_some hl'
      rcases b.kinds l blk' blk'' h' h'' with f | ⟨f1, f2⟩
      · obtain ⟨e1, e2⟩ := a.fresh l blk' hl h' (f ▸ hd)
        rw [b.keeps.place l blk' h']
        exact ⟨f.trans e1, e2⟩
      · exact absurd f2 hd
    · obtain ⟨e1, e2⟩ := b.fresh l blk'' (by omega) h'' hd
      refine ⟨e1, ?_⟩
      rcases e2 with e2 | ⟨l0, blk0, h0, k0, p0⟩
      · exact .inl (Nat.le_trans a.size e2)
      · by_cases hl0 : l0 < σ.length
        · obtain ⟨blk1, h1⟩ := get_some hl0
          rcases a.kinds l0 blk1 blk0 h1 h0 with f | ⟨_, f2⟩
          · exact .inr ⟨l0, blk1, h1, f ▸ k0, by rw [← p0, a.keeps.place l0 blk1 h1]⟩
          · rw [f2] at k0; cases k0
        · obtain ⟨_, g⟩ := a.fresh l0 blk0 (by omega) h0 (by rw [k0]; decide)
          rcases g with g | ⟨l1, blk1, h1, k1, p1⟩
          · exact .inl (p0 ▸ g)
          · exact .inr ⟨l1, blk1, h1, k1, p1.trans p0⟩
  frame c hc hn := by
    rw [b.frame c (Nat.lt_of_lt_of_le hc a.size) ?_, a.frame c hc hn]
    intro l blk' h' k' e
    by_cases hl : l < σ.length
    · obtain ⟨blk, h⟩ := get_some hl
      rcases a.kinds l blk blk' h h' with f | ⟨_, f2⟩
      · exact hn l blk h (f ▸ k') (by rw [← a.keeps.place l blk h]; exact e)
      · rw [f2] at k'; cases k'
    · obtain ⟨_, g⟩ := a.fresh l blk' (by omega) h' (by rw [k']; decide)
      rcases g with g | ⟨l1, blk1, h1, k1, p1⟩
      · omega
      · exact hn l1 blk1 h1 k1 (p1.trans e)
  size := Nat.le_trans a.size b.size
  os := b.os.trans a.os
  output := b.output.trans a.output
  tape := b.tape.trans a.tape

/-- Nothing but draws. -/
theorem Step.drew (ι : Inj) (σ : Heap) (w : World) : Step ι σ w ι σ w.drew := { Step.refl ι σ w with }
theorem HRel.drew {ι : Inj} {σ : Heap} {w : World} (h : HRel ι σ w) : HRel ι σ w.drew := ⟨h.cells, h.own, h.apart, h.there⟩

/-- What a call promises. -/
def Done (ι : Inj) (σ : Heap) (w : World) (Q : V → Heap → Prop) (e : Ending) (w' : World) : Prop :=
  ∃ x r σ' ι', e = .returned x ∧ Q r σ' ∧ (∀ β, Rel ι' σ' β r x) ∧ HRel ι' σ' w' ∧ Step ι σ w ι' σ' w'

def RelArgs (ι : Inj) (σ : Heap) (args : List V) (xs : List Value) : Prop :=
  args.length = xs.length ∧ ∀ (i : Nat) v x, args[i]? = some v → xs[i]? = some x → ∀ β, Rel ι σ β v x

/-- **A CALL IS AS ITS ABSTRACT MEANING SAYS.** -/
def SoundCall (P : Program) (f : FuncId) (sem : CallSem) : Prop :=
  ∀ (ι : Inj) (σ : Heap) (w : World) (args : List V) (xs : List Value) (Q : V → Heap → Prop), HRel ι σ w → RelArgs ι σ args xs → sem args σ Q →
    Calls P f xs.toArray w (Done ι σ w Q)

/-! ### A frame -/

/-- The boxes stand for blocks of this frame's own. -/
structure BRel (ι : Inj) (σ : Heap) (β : Nat → Nat) (bx : List (List V)) (w0 w : World) : Prop where
  cells : ∀ (i : Nat) cs, bx[i]? = some cs → cs ≠ [] → ∃ arr e, w.heap[β i]? = some (.cells arr e (0, 0)) ∧ arr.size = cs.length ∧ ∀ (j : Nat) v, cs[j]? = some v → v.cell = true ∧ ∃ x, arr[j]? = some x ∧ ∀ β', Rel ι σ β' v x
  new : ∀ (i : Nat) cs, bx[i]? = some cs → cs ≠ [] → w0.heap.size ≤ β i ∧ β i < w.heap.size
  apart : ∀ (i j : Nat) cs cs', i ≠ j → bx[i]? = some cs → bx[j]? = some cs' → cs ≠ [] → cs' ≠ [] → β i ≠ β j
  heap : ∀ (i : Nat) cs (l : Nat) (blk : Blk), bx[i]? = some cs → cs ≠ [] → σ[l]? = some blk → blk.k ≠ .dead → (ι l).b ≠ β i

/-- The slots. -/
def SRel (ι : Inj) (σ : Heap) (β : Nat → Nat) (sl : List V) (tmps : Array Value) : Prop :=
  sl.length ≤ tmps.size ∧ ∀ i, Rel ι σ β (get sl i) (tmps.getD i Go.undef)

/-- **THE STATE STANDS FOR THE MODEL's**, in a call that was entered with ι0, σ0, w0. -/
def Rep (ι0 : Inj) (σ0 : Heap) (w0 : World) (st : St) (a : Act) (w : World) : Prop :=
  a.defers = [] ∧ ∃ ι β, HRel ι st.hp w ∧ BRel ι st.hp β st.bx w0 w ∧ SRel ι st.hp β st.sl a.tmps ∧ Step ι0 σ0 w0 ι st.hp w

end Go.Ag
