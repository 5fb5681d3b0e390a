/-
  HOW THE RELATION GOES THROUGH A CHANGE OF MEMORY: a new block, a store, a block that dies, a block that is taken over.
-/
import Derived.Test.YtimnnpimflgonaaAgOps4
import Derived.Laws.CopyRow
import Derived.Laws.Rows
namespace Go.Ag

def upd {α : Type} (f : Nat → α) (i : Nat) (x : α) : Nat → α := fun j => if j = i then x else f j
theorem upd_same {α : Type} (f : Nat → α) (i : Nat) (x : α) : upd f i x i = x := by simp [upd]
theorem upd_other {α : Type} (f : Nat → α) (i j : Nat) (x : α) (h : j ≠ i) : upd f i x j = f j := by simp [upd, h]

/-- Cells against a row of the model's. -/
def RelCells (ι : Inj) (σ : Heap) (cs : List V) (ws : List Value) : Prop :=
  cs.length ≤ ws.length ∧ ∀ (i : Nat) v, cs[i]? = some v → v.cell = true ∧ ∃ x, ws[i]? = some x ∧ ∀ β, Rel ι σ β v x

theorem RelCells.mono {ι ι' : Inj} {σ σ' : Heap} {cs : List V} {ws : List Value} (h : RelCells ι σ cs ws) (k : Keeps ι σ ι' σ') : RelCells ι' σ' cs ws :=
  ⟨h.1, fun i v hv => let ⟨a, x, b, c⟩ := h.2 i v hv; ⟨a, x, b, fun β => (c β).cellMono k a⟩⟩

theorem Rel.oneCell {ι : Inj} {σ : Heap} {β : Nat → Nat} {v : V} {x : Value} (h : Rel ι σ β v x) (hv : v.cell = true) : x.oneCell' = true := by
  cases h <;> first | rfl | simp [V.cell] at hv

theorem rel_relCells {ι : Inj} {σ : Heap} {β : Nat → Nat} {v : V} {x : Value} (h : Rel ι σ β v x) (hk : v.cells.all V.cell = true) : RelCells ι σ v.cells x.cells.toList := by
  obtain ⟨h1, h2⟩ := h.cells hk
  refine ⟨by simp [h1], fun i u hu => ?_⟩
  obtain ⟨a, y, b, c⟩ := h2 i u hu
  exact ⟨a, y, by simpa using b, c⟩

theorem RelCells.agg {ι : Inj} {σ : Heap} {β : Nat → Nat} {cs : List V} {ws : List Value} (h : RelCells ι σ cs ws) (hl : cs.length = ws.length) : Rel ι σ β (.agg cs) (.agg ws.toArray) :=
  .agg cs ws hl (fun v hv => by obtain ⟨i, hi⟩ := List.getElem?_of_mem hv; exact (h.2 i v hi).1)
    (fun i v x hv hx => by obtain ⟨_, y, hy, hr⟩ := h.2 i v hv; rw [hy] at hx; cases hx; exact hr β)

theorem RelCells.splice {ι : Inj} {σ : Heap} {cs vs : List V} {ws us : List Value} {o : Nat} (h : RelCells ι σ cs ws) (k : RelCells ι σ vs us) (hl : vs.length = us.length) (ho : o + vs.length ≤ cs.length) :
    RelCells ι σ (Ag.splice cs o vs) (ws.take o ++ us ++ ws.drop (o + us.length)) := by
  have h1 := h.1
  refine ⟨by simp [splice_len]; omega, fun i v hv => ?_⟩
  rw [splice_get cs o vs i ho] at hv
  by_cases hi : o ≤ i ∧ i < o + vs.length
  · rw [if_pos hi] at hv
    obtain ⟨a, x, b, c⟩ := k.2 _ v hv
    refine ⟨a, x, ?_, c⟩
    rw [List.append_assoc, List.getElem?_append_right (by simp; omega), List.getElem?_append_left (by simp; omega)]
    have : min o ws.length = o := by omega
    simpa [this] using b
  · rw [if_neg hi] at hv
    obtain ⟨a, x, b, c⟩ := h.2 i v hv
    refine ⟨a, x, ?_, c⟩
    by_cases hlt : i < o
    · rw [List.append_assoc, List.getElem?_append_left (by simp; omega), List.getElem?_take, if_pos hlt]
      exact b
    · rw [List.getElem?_append_right (by simp; omega), List.getElem?_drop]
      have e : o + us.length + (i - (ws.take o ++ us).length) = i := by simp; omega
      rw [e]; exact b

theorem SRel.mono {ι ι' : Inj} {σ σ' : Heap} {β : Nat → Nat} {sl : List V} {tmps : Array Value} (h : SRel ι σ β sl tmps) (k : Keeps ι σ ι' σ') : SRel ι' σ' β sl tmps :=
  ⟨h.1, fun i => (h.2 i).mono k fun _ _ _ => rfl⟩

theorem BRel.mono {ι ι' : Inj} {σ σ' : Heap} {β : Nat → Nat} {bx : List (List V)} {w0 w w' : World} (h : BRel ι σ β bx w0 w) (k : Keeps ι σ ι' σ')
    (hw : ∀ (i : Nat) cs, bx[i]? = some cs → cs ≠ [] → w'.heap[β i]? = w.heap[β i]?) (hs : w.heap.size ≤ w'.heap.size)
    (hh : ∀ (i : Nat) cs (l : Nat) (blk : Blk), bx[i]? = some cs → cs ≠ [] → σ'[l]? = some blk → blk.k ≠ .dead → (ι' l).b ≠ β i) : BRel ι' σ' β bx w0 w' where
  cells i cs hi hne := by
    obtain ⟨arr, e, h1, h2, h3⟩ := h.cells i cs hi hne
    refine ⟨arr, e, by rw [hw i cs hi hne]; exact h1, h2, fun j v hv => ?_⟩
    obtain ⟨a, x, b, c⟩ := h3 j v hv
    exact ⟨a, x, b, fun β' => (c β').cellMono k a⟩
  new i cs hi hne := ⟨(h.new i cs hi hne).1, Nat.lt_of_lt_of_le (h.new i cs hi hne).2 hs⟩
  apart := h.apart
  heap := hh

/-- The world grows by a block: what is known stays known. -/
theorem heap_alloc_lt (w : World) (ob : Obj) (k : Nat) (h : k < w.heap.size) : (w.alloc ob).heap[k]? = w.heap[k]? := heap_alloc_old w ob k h
theorem HRel.alloc {ι : Inj} {σ : Heap} {w : World} (h : HRel ι σ w) (ob : Obj) : HRel ι σ (w.alloc ob) where
  cells l blk hl hk i v hv := by
    obtain ⟨a, x, b, c⟩ := h.cells l blk hl hk i v hv
    exact ⟨a, x, by rw [World.cell?_of_block (w := w) (heap_alloc_lt w ob _ (h.there l blk hl hk))]; exact b, c⟩
  own l blk hl hk := by
    obtain ⟨a, b, arr, e, c, d⟩ := h.own l blk hl hk
    exact ⟨a, b, arr, e, by rw [heap_alloc_lt w ob _ (h.there l blk hl (by rw [hk]; decide))]; exact c, d⟩
  apart := h.apart
  there l blk hl hk := by have := h.there l blk hl hk; simp; omega
theorem Step.alloc (ι : Inj) (σ : Heap) (w : World) (ob : Obj) : Step ι σ w ι σ (w.alloc ob) :=
  { Step.refl ι σ w with frame := fun b hb _ => heap_alloc_lt w ob b hb, size := by simp }
theorem BRel.alloc {ι : Inj} {σ : Heap} {β : Nat → Nat} {bx : List (List V)} {w0 w : World} (h : BRel ι σ β bx w0 w) (ob : Obj) : BRel ι σ β bx w0 (w.alloc ob) :=
  h.mono (.refl _ _) (fun i cs hi hne => heap_alloc_lt w ob _ (h.new i cs hi hne).2) (by simp) h.heap

theorem BRel.drew {ι : Inj} {σ : Heap} {β : Nat → Nat} {bx : List (List V)} {w0 w : World} (h : BRel ι σ β bx w0 w) : BRel ι σ β bx w0 w.drew :=
  h.mono (.refl _ _) (fun _ _ _ _ => rfl) (Nat.le_refl _) h.heap

theorem keeps_push (ι : Inj) (σ : Heap) (p : Place) (blk : Blk) : Keeps ι σ (upd ι σ.length p) (σ ++ [blk]) where
  place l b h := upd_other _ _ _ _ (by have := get_len h; omega)
  width l b h := ⟨b, by rw [List.getElem?_append_left (get_len h)]; exact h, rfl⟩

theorem push_get {σ : Heap} {blk b : Blk} {l : Nat} (h : (σ ++ [blk])[l]? = some b) : (l < σ.length ∧ σ[l]? = some b) ∨ (l = σ.length ∧ b = blk) := by
  by_cases hl : l < σ.length
  · rw [List.getElem?_append_left hl] at h; exact .inl ⟨hl, h⟩
  · rw [List.getElem?_append_right (by omega)] at h
    have : l - σ.length = 0 := by
      rcases Nat.eq_zero_or_pos (l - σ.length) with h0 | h0
      · exact h0
      · rw [List.getElem?_eq_none (by simp; omega)] at h; cases h
    rw [this] at h
    simp at h
    exact .inr ⟨by omega, h.symm⟩

/-- **A block is taken over** (a new one, or one whose abstract block is dead): nothing that lives lies there. -/
theorem HRel.adopt {ι : Inj} {σ : Heap} {w : World} (h : HRel ι σ w) {b : Nat} {arr : Array Value} {e : TypeId} {wd : Nat} {cs : List V} (hb : w.heap[b]? = some (.cells arr e (0, 0)))
    (hfree : ∀ (l : Nat) (blk : Blk), σ[l]? = some blk → blk.k ≠ .dead → (ι l).b ≠ b) (hc : RelCells ι σ cs arr.toList) : HRel (upd ι σ.length ⟨b, 0, arr.size⟩) (σ ++ [⟨.own, wd, cs⟩]) w := by
  have K := keeps_push ι σ ⟨b, 0, arr.size⟩ ⟨.own, wd, cs⟩
  have hbs : b < w.heap.size := by
    rcases Nat.lt_or_ge b w.heap.size with q | q
    · exact q
    · rw [Array.getElem?_eq_none q] at hb; cases hb
  refine ⟨fun l blk hl hk i v hv => ?_, fun l blk hl hk => ?_, fun l l' blk blk' hne hl hl' hk hk' => ?_, fun l blk hl hk => ?_⟩
  · rcases push_get hl with ⟨hlt, hl⟩ | ⟨rfl, rfl⟩
    · rw [upd_other _ _ _ _ (by omega)]
      obtain ⟨a, x, b', c⟩ := h.cells l blk hl hk i v hv
      exact ⟨a, x, b', fun β => (c β).cellMono K a⟩
    · rw [upd_same]
      obtain ⟨a, x, b', c⟩ := hc.2 i v hv
      refine ⟨a, x, ?_, fun β => (c β).cellMono K a⟩
      simp only [World.cell?, hb]
      simpa using b'
  · rcases push_get hl with ⟨hlt, hl⟩ | ⟨rfl, rfl⟩
    · rw [upd_other _ _ _ _ (by omega)]
      exact h.own l blk hl hk
    · rw [upd_same]
      exact ⟨rfl, by simpa using hc.1, arr, e, hb, rfl⟩
  · rcases push_get hl with ⟨hlt, hl⟩ | ⟨rfl, rfl⟩ <;> rcases push_get hl' with ⟨hlt', hl'⟩ | ⟨rfl, rfl⟩
    · rw [upd_other _ _ _ _ (by omega), upd_other _ _ _ _ (by omega)]
      exact h.apart l l' blk blk' hne hl hl' hk hk'
    · rw [upd_other _ _ _ _ (by omega), upd_same]
      exact hfree l blk hl (by rw [hk]; decide)
    · rw [upd_same, upd_other _ _ _ _ (by omega)]
      exact fun q => hfree l' blk' hl' hk' q.symm
    · exact absurd rfl hne
  · rcases push_get hl with ⟨hlt, hl⟩ | ⟨rfl, rfl⟩
    · rw [upd_other _ _ _ _ (by omega)]
      exact h.there l blk hl hk
    · rw [upd_same]; exact hbs

/-- A new block. -/
theorem push_new {ι : Inj} {σ : Heap} {β : Nat → Nat} {bx : List (List V)} {w0 w : World} {sl : List V} {tmps : Array Value} (h : HRel ι σ w) (B : BRel ι σ β bx w0 w) (S : SRel ι σ β sl tmps) (arr : Array Value) (e : TypeId) (wd : Nat) (cs : List V)
    (hc : RelCells ι σ cs arr.toList) :
    HRel (upd ι σ.length ⟨w.heap.size, 0, arr.size⟩) (σ ++ [⟨.own, wd, cs⟩]) (w.alloc (.cells arr e)) ∧ BRel (upd ι σ.length ⟨w.heap.size, 0, arr.size⟩) (σ ++ [⟨.own, wd, cs⟩]) β bx w0 (w.alloc (.cells arr e)) ∧
    SRel (upd ι σ.length ⟨w.heap.size, 0, arr.size⟩) (σ ++ [⟨.own, wd, cs⟩]) β sl tmps ∧ Step ι σ w (upd ι σ.length ⟨w.heap.size, 0, arr.size⟩) (σ ++ [⟨.own, wd, cs⟩]) (w.alloc (.cells arr e)) := by
  have K := keeps_push ι σ ⟨w.heap.size, 0, arr.size⟩ ⟨.own, wd, cs⟩
  refine ⟨(h.alloc (.cells arr e)).adopt (heap_alloc_new w _) (fun l blk hl hk => by have := h.there l blk hl hk; omega) hc, ?_, S.mono K, ?_⟩
  · refine B.mono K (fun i cs hi hne => heap_alloc_lt w _ _ (B.new i cs hi hne).2) (by simp) fun i cs l blk hi hne hl hk => ?_
    rcases push_get hl with ⟨hlt, hl⟩ | ⟨rfl, rfl⟩
    · rw [upd_other _ _ _ _ (by omega)]; exact B.heap i cs l blk hi hne hl hk
    · rw [upd_same]; have := (B.new i cs hi hne).2; show w.heap.size ≠ β i; omega
  · refine { keeps := K, kinds := fun l blk blk' hl hl' => ?_, fresh := fun l blk' hle hl hk => ?_, frame := fun b hb _ => heap_alloc_lt w _ b hb, size := by simp, os := rfl, output := rfl, tape := rfl }
    · rw [List.getElem?_append_left (get_len hl), hl] at hl'; cases hl'; exact .inl rfl
    · rcases push_get hl with ⟨hlt, hl⟩ | ⟨rfl, rfl⟩
      · omega
      · rw [upd_same]; exact ⟨rfl, .inl (Nat.le_refl _)⟩

/-- A block dies. -/
theorem set_get {σ : Heap} {l j : Nat} {blk b : Blk} (h : (σ.set l blk)[j]? = some b) : (j = l ∧ b = blk ∧ l < σ.length) ∨ (j ≠ l ∧ σ[j]? = some b) := by
  rw [List.getElem?_set] at h
  split at h
  · rename_i e
    split at h
    · cases h; exact .inl ⟨e.symm, rfl, by assumption⟩
    · cases h
  · rename_i e; exact .inr ⟨fun q => e q.symm, h⟩
theorem keeps_set (ι : Inj) (σ : Heap) (l : Nat) (blk blk' : Blk) (h : σ[l]? = some blk) (hw : blk'.w = blk.w) : Keeps ι σ ι (σ.set l blk') where
  place _ _ _ := rfl
  width j b hj := by
    by_cases e : l = j
    · subst e
      rw [h] at hj; cases hj
      exact ⟨blk', by rw [List.getElem?_set, if_pos rfl, if_pos (get_len h)], hw⟩
    · exact ⟨b, by rw [List.getElem?_set, if_neg e]; exact hj, rfl⟩
theorem HRel.kill {ι : Inj} {σ : Heap} {w : World} (h : HRel ι σ w) {l : Nat} {blk : Blk} (hl : σ[l]? = some blk) : HRel ι (σ.set l ⟨.dead, blk.w, []⟩) w := by
  have K := keeps_set ι σ l blk ⟨.dead, blk.w, []⟩ hl rfl
  refine ⟨fun j b hj hk i v hv => ?_, fun j b hj hk => ?_, fun j j' b b' hne hj hj' hk hk' => ?_, fun j b hj hk => ?_⟩
  · rcases set_get hj with ⟨_, rfl, _⟩ | ⟨_, hj⟩
    · exact absurd rfl hk
    · obtain ⟨a, x, b', c⟩ := h.cells j b hj hk i v hv
      exact ⟨a, x, b', fun β => (c β).cellMono K a⟩
  · rcases set_get hj with ⟨_, rfl, _⟩ | ⟨_, hj⟩
    · cases hk
    · exact h.own j b hj hk
  · rcases set_get hj with ⟨_, rfl, _⟩ | ⟨_, hj⟩
    · cases hk
    · rcases set_get hj' with ⟨_, rfl, _⟩ | ⟨_, hj'⟩
      · exact absurd rfl hk'
      · exact h.apart j j' b b' hne hj hj' hk hk'
  · rcases set_get hj with ⟨_, rfl, _⟩ | ⟨_, hj⟩
    · exact absurd rfl hk
    · exact h.there j b hj hk

end Go.Ag
