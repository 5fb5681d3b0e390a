/-
  EACH OPERATION THAT IS NO CALL: new variables, struct values, stores.
-/
import Derived.Test.YtimnnpimflgonaaAgMem
namespace Go.Ag

theorem okCells_relCells {ws : List Value} {cs : List V} (h : okCells ws cs = true) (ι : Inj) (σ : Heap) : RelCells ι σ cs ws :=
  ⟨by rw [okCells_len h]; exact Nat.le_refl _, fun i v hv => let ⟨x, hx, hc⟩ := okCells_get h i v hv; ⟨okConst_cell hc, x, hx, fun β => okConst_rel hc ι σ β⟩⟩

def okZero (P : Program) (t : TypeId) (zs : List V) : Bool :=
  match P.info? t with
  | some i => (match i.zero with | some z => okCells z.cells.toList zs && zs.length == i.size | none => false)
  | none => false
theorem okZero_spec {P : Program} {t : TypeId} {zs : List V} (h : okZero P t zs = true) : ∃ i z, P.info? t = some i ∧ i.zero = some z ∧ okCells z.cells.toList zs = true ∧ zs.length = i.size := by
  unfold okZero at h
  split at h
  · rename_i i hi
    split at h
    · rename_i z hz
      simp at h
      exact ⟨i, z, hi, hz, h.1, h.2⟩
    · cases h
  · cases h

/-! ### Parts laid into cells -/

def okParts (place : Nat → Option (Nat × Nat)) : List (Nat × Operand) → List (Nat × Nat × Opnd) → Bool
  | [], [] => true
  | (i, x) :: r, (off, size, y) :: s => place i == some (off, size) && okX x y && okParts place r s
  | _, _ => false

theorem foldl_set (off : Nat) : ∀ (vs : List Value) (k : Nat) (cells : Array Value) (j : Nat), off + k + vs.length ≤ cells.size →
    ((vs.zipIdx k).foldl (fun cs (p : Value × Nat) => cs.setIfInBounds (off + p.2) p.1) cells).size = cells.size ∧
    ((vs.zipIdx k).foldl (fun cs (p : Value × Nat) => cs.setIfInBounds (off + p.2) p.1) cells)[j]? = if off + k ≤ j ∧ j < off + k + vs.length then vs[j - (off + k)]? else cells[j]?
  | [], k, cells, j, _ => by simp; omega
  | v :: vs, k, cells, j, h => by
    have ih := foldl_set off vs (k + 1) (cells.setIfInBounds (off + k) v) j (by simp at h ⊢; omega)
    simp only [List.zipIdx_cons, List.foldl_cons]
    refine ⟨by rw [ih.1]; simp, ?_⟩
    rw [ih.2]
    by_cases hj : off + (k + 1) ≤ j ∧ j < off + (k + 1) + vs.length
    · rw [if_pos hj, if_pos (by simp; omega)]
      have : j - (off + k) = j - (off + (k + 1)) + 1 := by omega
      rw [this]; simp
    · rw [if_neg hj]
      by_cases hj2 : j = off + k
      · subst hj2
        rw [if_pos (by simp), Array.getElem?_setIfInBounds, if_pos rfl, if_pos (by simp at h; omega)]
        simp
      · rw [if_neg (by simp only [List.length_cons]; omega), Array.getElem?_setIfInBounds, if_neg (Ne.symm hj2)]

theorem fill_spec {ι : Inj} {σ : Heap} {β : Nat → Nat} {sl : List V} {a : Act} (S : SRel ι σ β sl a.tmps) (place : Nat → Option (Nat × Nat)) : ∀ (ps : List (Nat × Operand)) (qs : List (Nat × Nat × Opnd)) (cells : Array Value) (cs out : List V),
    okParts place ps qs = true → RelCells ι σ cs cells.toList → cs.length = cells.size → fillA sl cs qs = some out →
    ∃ arr, Instr.fill place cells (ps.map fun p => (p.1, a.eval p.2)) = some arr ∧ RelCells ι σ out arr.toList ∧ out.length = arr.size ∧ arr.size = cells.size
  | [], [], cells, cs, out, _, hr, hl, e => by
    simp [fillA] at e
    subst e
    exact ⟨cells, rfl, hr, hl, rfl⟩
  | [], _ :: _, _, _, _, h, _, _, _ => by simp [okParts] at h
  | _ :: _, [], _, _, _, h, _, _, _ => by simp [okParts] at h
  | (i, x) :: ps, (off, size, y) :: qs, cells, cs, out, h, hr, hl, e => by
    simp only [okParts, Bool.and_eq_true, beq_iff_eq] at h
    obtain ⟨⟨h1, h2⟩, h3⟩ := h
    simp only [fillA] at e
    split at e
    · rename_i hc
      obtain ⟨c1, c2, c3⟩ := hc
      have rx := okX_rel h2 S
      have rc := rel_relCells rx c3
      obtain ⟨s1, _⟩ := rx.cells c3
      have hn : ((a.eval x).cells.zipIdx.foldl (fun cs (c, j) => cs.setIfInBounds (off + j) c) cells) = (((a.eval x).cells.toList.zipIdx 0).foldl (fun cs (p : Value × Nat) => cs.setIfInBounds (off + p.2) p.1) cells) := by
        rw [← Array.foldl_toList]
        simp
      have hf := fun j => foldl_set off (a.eval x).cells.toList 0 cells j (by simp; omega)
      have e1 : (((a.eval x).cells.toList.zipIdx 0).foldl (fun cs (p : Value × Nat) => cs.setIfInBounds (off + p.2) p.1) cells).toList = cells.toList.take off ++ (a.eval x).cells.toList ++ cells.toList.drop (off + (a.eval x).cells.toList.length) := by
        apply List.ext_getElem?
        intro j
        have := (hf j).2
        rw [Array.getElem?_toList, this]
        simp only [Nat.add_zero]
        have hL : (a.eval x).cells.toList.length = size := by simp; omega
        have hC : cells.toList.length = cells.size := by simp
        by_cases hj : off ≤ j ∧ j < off + (a.eval x).cells.toList.length
        · rw [if_pos hj, List.append_assoc, List.getElem?_append_right (by simp; omega), List.getElem?_append_left (by simp at hj ⊢; omega)]
          have : min off cells.size = off := by omega
          simp [this]
        · rw [if_neg hj]
          by_cases hlt : j < off
          · rw [List.append_assoc, List.getElem?_append_left (by simp; omega), List.getElem?_take, if_pos hlt]
            simp
          · rw [List.getElem?_append_right (by simp at hj ⊢; omega), List.getElem?_drop]
            have e : off + (a.eval x).cells.toList.length + (j - (cells.toList.take off ++ (a.eval x).cells.toList).length) = j := by simp at hj ⊢; omega
            rw [e]; simp
      have hsz := (hf 0).1
      obtain ⟨arr, q1, q2, q3, q4⟩ := fill_spec S place ps qs _ _ out h3 (by rw [e1]; exact hr.splice rc (by simp; omega) (by omega)) (by rw [splice_len, hsz]; exact hl) e
      refine ⟨arr, ?_, q2, q3, by rw [q4, hsz]⟩
      simp only [List.map_cons, Instr.fill, h1]
      rw [if_neg (by simp; omega), hn]
      exact q1
    · cases e

theorem run_places {P : Program} {w : World} : ∀ (fs : List Field), (fs.all fun f => (P.info? f.type).isSome) = true →
    (fs.mapM fun f => do pure (f.offset, ← sizeOf f.type) : Sem (List (Nat × Nat))).run P w = .ok (fs.map fun f => (f.offset, P.cellsOf f.type)) w
  | [], _ => by simp
  | f :: fs, h => by
    simp only [List.all_cons, Bool.and_eq_true] at h
    obtain ⟨i, hi⟩ := Option.isSome_iff_exists.1 h.1
    have ih := run_places (P := P) (w := w) fs h.2
    simp only [List.mapM_cons, Sem.run_bind, r_size hi, Result.andThen_ok, Sem.run_pure, ih]
    simp [Program.cellsOf, hi]

def fieldPlaces (P : Program) (fs : Array Field) (i : Nat) : Option (Nat × Nat) := (fs[i]?).map fun f => (f.offset, P.cellsOf f.type)

/-- The zero elements of a new slice. -/
theorem rep_len (z : List V) (n : Nat) : (rep z n).length = n * z.length := by
  induction n with
  | zero => simp [rep]
  | succ n ih => simp [rep, ih, Nat.succ_mul]; omega
theorem rep_get (z : List V) (n i : Nat) (h : i < n * z.length) : (rep z n)[i]? = z[i % z.length]? := by
  induction n generalizing i with
  | zero => simp at h
  | succ n ih =>
    simp only [rep]
    by_cases hi : i < z.length
    · rw [List.getElem?_append_left hi, Nat.mod_eq_of_lt hi]
    · rw [List.getElem?_append_right (by omega), ih _ (by rw [Nat.succ_mul] at h; omega)]
      congr 1
      rw [Nat.mod_eq_sub_mod (a := i) (by omega)]

section
variable {P : Program} {o : Oper} {a : Act} {ι : Inj} {β : Nat → Nat} {st : St} {w0 w : World} {v : V} {bx : List (List V)} {hp : Heap}
  (H : HRel ι st.hp w) (B : BRel ι st.hp β st.bx w0 w) (S : SRel ι st.hp β st.sl a.tmps) {ι0 : Inj} {σ0 : Heap} (T : Step ι0 σ0 w0 ι st.hp w)
include H B S T

theorem op_build {t : TypeId} {fs : Array Field} {parts : Array (Nat × Operand)} {zs : List V} {ps : List (Nat × Nat × Opnd)} (ho : o.op = .build t parts) (ht : P.underlying t = some (.struct fs)) (hfs : (fs.toList.all fun f => (P.info? f.type).isSome) = true)
    (hz : okZero P t zs = true) (hp' : okParts (fieldPlaces P fs) parts.toList ps = true) (e : stepV (.build zs ps) st = some (v, bx, hp)) : Out P o a ι0 σ0 w0 w st.sl v bx hp := by
  simp only [stepV] at e
  split at e
  · simp only [Option.bind_eq_some_iff] at e
    obtain ⟨out, e1, e2⟩ := e
    cases e2
    obtain ⟨i, z, h1, h2, h3, h4⟩ := okZero_spec hz
    obtain ⟨arr, q1, q2, q3, _⟩ := fill_spec S (fieldPlaces P fs) parts.toList ps z.cells zs out hp' (okCells_relCells h3 _ _) (by rw [okCells_len h3]; simp) e1
    refine Out.pure H B S T (x := .agg arr) ?_ (by have := q2.agg (β := β) (by simpa using q3); simpa using this) rfl
    have hpl := run_places (P := P) (w := w) fs.toList hfs
    have hpl' : (fs.mapM fun f => do pure (f.offset, ← sizeOf f.type) : Sem (Array (Nat × Nat))).run P w = .ok (fs.map fun f => (f.offset, P.cellsOf f.type)) w := by
      rw [Array.mapM_eq_mapM_toList]
      simp only [Sem.run_map, hpl, Result.andThen_ok]
      congr 1
      apply Array.ext'
      simp
    have hfl : Instr.fill (fun i => (fs.map fun f => (f.offset, P.cellsOf f.type))[i]?) z.cells (parts.map fun (i, x) => (i, a.eval x)).toList = some arr := by
      have : (fun i => (fs.map fun f => (f.offset, P.cellsOf f.type))[i]?) = fieldPlaces P fs := by
        funext i; simp [fieldPlaces]
      rw [this]
      simpa using q1
    simp only [execOp, ho, Instr.build, Sem.run_bind, r_zero h1 h2, Result.andThen_ok, r_underlying ht, hpl', hfl]
    rfl
  · cases e

theorem op_allocH {t : TypeId} {zs : List V} (ho : o.op = .alloc t) (hz : okZero P t zs = true) (e : stepV (.allocH zs) st = some (v, bx, hp)) : Out P o a ι0 σ0 w0 w st.sl v bx hp := by
  simp only [stepV] at e
  split at e
  · rename_i hc
    cases e
    obtain ⟨inf, z, h1, h2, h3, h4⟩ := okZero_spec hz
    obtain ⟨q1, q2, q3, q4⟩ := push_new H B S z.cells t 1 zs (okCells_relCells h3 _ _)
    refine ⟨_, .pointer (some ⟨w.heap.size, 0, none⟩), _, _, β, by simp [execOp, ho, Instr.alloc, r_zero h1 h2, newVar, newRow], .inl rfl, q1, q2, q3, ?_, T.trans q4⟩
    have := Rel.ptr (ι := upd ι st.hp.length ⟨w.heap.size, 0, z.cells.size⟩) (σ := st.hp ++ [⟨.own, 1, zs⟩]) (β := β) st.hp.length 0 ⟨.own, 1, zs⟩ (by simp)
    rwa [upd_same] at this
  · cases e

theorem op_boxH {t : TypeId} {n : Nat} {x : Operand} {x' : Opnd} (ho : o.op = .box t x) (hx : okX x x' = true) (e : stepV (.boxH n x') st = some (v, bx, hp)) : Out P o a ι0 σ0 w0 w st.sl v bx hp := by
  have rx := okX_rel hx S
  simp only [stepV] at e
  split at e
  · rename_i hc
    cases e
    have rc := rel_relCells rx hc.2
    obtain ⟨q1, q2, q3, q4⟩ := push_new H B S (a.eval x).cells t 1 _ rc
    refine ⟨_, .pointer (some ⟨w.heap.size, 0, none⟩), _, _, β, by simp [execOp, ho, Instr.box, newVar, newRow], .inl rfl, q1, q2, q3, ?_, T.trans q4⟩
    have := Rel.ptr (ι := upd ι st.hp.length ⟨w.heap.size, 0, (a.eval x).cells.size⟩) (σ := st.hp ++ [⟨.own, 1, (x'.ev st.sl).cells⟩]) (β := β) st.hp.length 0 ⟨.own, 1, (x'.ev st.sl).cells⟩ (by simp)
    rwa [upd_same] at this
  · cases e

theorem op_mkSlice {t el : TypeId} {ww : Nat} {zs : List V} {l c : Operand} {l' : Opnd} (ho : o.op = .makeSlice t l c) (hw : elemOK P t ww = true) (ht : P.underlying t = some (.slice el)) (hz : okZero P el zs = true) (hl : okX l l' = true) (hc : okX c l' = true)
    (e : stepV (.mkSlice ww zs l') st = some (v, bx, hp)) : Out P o a ι0 σ0 w0 w st.sl v bx hp := by
  have rl := okX_rel hl S
  have rc := okX_rel hc S
  obtain ⟨el', inf, z, g1, g2, g3, g4, g5, _⟩ := elemOK_spec hw
  rw [ht] at g1; cases g1
  obtain ⟨inf', z', h1, h2, h3, h4⟩ := okZero_spec hz
  rw [g2] at h1; cases h1
  rw [g5] at h2; cases h2
  simp only [stepV] at e
  split at e
  · rename_i n hle
    rw [hle] at rl rc
    have el1 := rel_int rl
    have el2 := rel_int rc
    split at e
    · rename_i hcond
      obtain ⟨c1, c2, c3, c4, c5⟩ := hcond
      unfold roomy at c5
      have hnle : n ≤ 1099511627776 := by
        have : n.toNat ≤ n.toNat * ww := Nat.le_mul_of_pos_right _ c3
        omega
      have hrun : (execOp a.eval o).run P w = .ok (.value (.slice (some ⟨w.heap.size, 0, none⟩) n.toNat n.toNat)) (w.alloc (.cells (madeCells z.cells (n.toNat * ww)) el)) := by
        have := run_make (P := P) w t el inf z ht g2 g5 .i64 .i64 n n c1 (Int.le_refl _) (by
          have h1 : (inf.bytes : Int) * n ≤ 128 * n := Int.mul_le_mul_of_nonneg_right (by omega) c1
          omega) (by omega)
        simp [execOp, ho, el1, el2, this, g3]
      have hzl : zs.length = ww := by rw [h4, g3]
      have hzc : z.cells.size = ww := by have := okCells_len h3; simp at this; omega
      have hrel : ∀ m, RelCells ι st.hp (rep zs m) (madeCells z.cells (m * ww)).toList := by
        intro m
        refine ⟨by rw [rep_len, hzl]; simp [size_madeCells], fun i v hv => ?_⟩
        have hi : i < m * ww := by have := (List.getElem?_eq_some_iff.1 hv).1; rwa [rep_len, hzl] at this
        rw [rep_get zs m i (by rw [hzl]; exact hi), hzl] at hv
        obtain ⟨x, hx, hcst⟩ := okCells_get h3 _ _ hv
        refine ⟨okConst_cell hcst, x, ?_, fun β => okConst_rel hcst ι st.hp β⟩
        have hlt : i % ww < z.cells.size := by rw [hzc]; exact Nat.mod_lt _ c3
        simp only [madeCells, hzc]
        have hx' : z.cells[i % ww]? = some x := by simpa using hx
        simp only [Array.toList_map, Array.toList_range, List.getElem?_map, List.getElem?_range hi, Option.map_some]
        rw [getElem!_pos z.cells (i % ww) hlt]
        exact congrArg some (Array.getElem?_eq_some_iff.1 hx').2
      split at e
      · rename_i h0
        cases e
        subst h0
        refine ⟨_, _, _, ι, β, hrun, .inl rfl, H.alloc _, B.alloc _, S, ?_, T.trans (Step.alloc _ _ _ _)⟩
        exact Rel.nils _
      · cases e
        obtain ⟨q1, q2, q3, q4⟩ := push_new H B S (madeCells z.cells (n.toNat * ww)) el ww (rep zs n.toNat) (hrel _)
        refine ⟨_, _, _, _, β, hrun, .inl rfl, q1, q2, q3, ?_, T.trans q4⟩
        have := Rel.slice (ι := upd ι st.hp.length ⟨w.heap.size, 0, (madeCells z.cells (n.toNat * ww)).size⟩) (σ := st.hp ++ [⟨.own, ww, rep zs n.toNat⟩]) (β := β) st.hp.length 0 n.toNat n.toNat ⟨.own, ww, rep zs n.toNat⟩ (by simp) (Nat.le_refl _)
          (by rw [upd_same]; simp [size_madeCells])
        rwa [upd_same] at this
    · cases e
  · cases e

/-- The frame behind a box that is made anew. -/
theorem newBox {i : Nat} {cs : List V} {arr : Array Value} {el : TypeId} (hi : i < st.bx.length) (hc : RelCells ι st.hp cs arr.toList) (hl : cs.length = arr.size) :
    HRel ι st.hp (w.alloc (.cells arr el)) ∧ BRel ι st.hp (upd β i w.heap.size) (putB st.bx i cs) w0 (w.alloc (.cells arr el)) ∧ SRel ι st.hp (upd β i w.heap.size) (clearBox i st.sl) a.tmps ∧ Step ι st.hp w ι st.hp (w.alloc (.cells arr el)) ∧
    Rel ι st.hp (upd β i w.heap.size) (.box i 0) (.pointer (some ⟨w.heap.size, 0, none⟩)) := by
  have hne : ∀ (j : Nat) c, (putB st.bx i cs)[j]? = some c → (j = i ∧ c = cs) ∨ (j ≠ i ∧ st.bx[j]? = some c) := by
    intro j c h
    rw [putB_get] at h
    by_cases hj : j = i
    · rw [if_pos ⟨hj, hi⟩] at h; cases h; exact .inl ⟨hj, rfl⟩
    · rw [if_neg (fun q => hj q.1)] at h; exact .inr ⟨hj, h⟩
  refine ⟨H.alloc _, ⟨fun j c hj hcn => ?_, fun j c hj hcn => ?_, fun j j' c c' hjj hj hj' hcn hcn' => ?_, fun j c l blk hj hcn hl2 hk => ?_⟩, ⟨by simpa using S.1, fun n => ?_⟩, Step.alloc _ _ _ _, ?_⟩
  · rcases hne j c hj with ⟨rfl, rfl⟩ | ⟨hji, hg⟩
    · rw [upd_same]
      refine ⟨arr, el, heap_alloc_new w _, hl.symm, fun k v hv => ?_⟩
      obtain ⟨q1, x, q2, q3⟩ := hc.2 k v hv
      exact ⟨q1, x, by simpa using q2, q3⟩
    · rw [upd_other _ _ _ _ hji]
      obtain ⟨arr', e', h1, h2⟩ := B.cells j c hg hcn
      exact ⟨arr', e', by rw [heap_alloc_lt w _ _ (B.new j c hg hcn).2]; exact h1, h2⟩
  · rcases hne j c hj with ⟨rfl, rfl⟩ | ⟨hji, hg⟩
    · rw [upd_same]; exact ⟨T.size, by simp⟩
    · rw [upd_other _ _ _ _ hji]
      have := B.new j c hg hcn
      exact ⟨this.1, by simp; omega⟩
  · rcases hne j c hj with ⟨rfl, rfl⟩ | ⟨hji, hg⟩ <;> rcases hne j' c' hj' with ⟨rfl, rfl⟩ | ⟨hji', hg'⟩
    · exact absurd rfl hjj
    · rw [upd_same, upd_other _ _ _ _ hji']
      have := (B.new j' c' hg' hcn').2; omega
    · rw [upd_same, upd_other _ _ _ _ hji]
      have := (B.new j c hg hcn).2; omega
    · rw [upd_other _ _ _ _ hji, upd_other _ _ _ _ hji']
      exact B.apart j j' c c' hjj hg hg' hcn hcn'
  · rcases hne j c hj with ⟨rfl, rfl⟩ | ⟨hji, hg⟩
    · rw [upd_same]; have := H.there l blk hl2 hk; omega
    · rw [upd_other _ _ _ _ hji]; exact B.heap j c l blk hg hcn hl2 hk
  · rw [get_clearBox]
    split
    · exact .undef _
    · rename_i hb
      refine (S.2 n).mono (.refl _ _) fun j q hv => ?_
      rw [hv] at hb
      simp [V.isBox] at hb
      exact upd_other _ _ _ _ (Ne.symm hb)
  · have := Rel.box (ι := ι) (σ := st.hp) (β := upd β i w.heap.size) i 0
    rwa [upd_same] at this

theorem op_allocB {t : TypeId} {i : Nat} {zs : List V} (ho : o.op = .alloc t) (hz : okZero P t zs = true) (e : stepV (.allocB i zs) st = some (v, bx, hp)) : Out P o a ι0 σ0 w0 w (clearBox i st.sl) v bx hp := by
  simp only [stepV] at e
  split at e
  · rename_i hc
    cases e
    obtain ⟨inf, z, h1, h2, h3, h4⟩ := okZero_spec hz
    obtain ⟨q1, q2, q3, q4, q5⟩ := newBox H B S T (arr := z.cells) (el := t) hc.1 (okCells_relCells h3 _ _) (by rw [okCells_len h3]; simp)
    exact ⟨_, _, _, ι, _, by simp [execOp, ho, Instr.alloc, r_zero h1 h2, newVar, newRow], .inl rfl, q1, q2, q3, q5, T.trans q4⟩
  · cases e

theorem op_boxB {t : TypeId} {i n : Nat} {x : Operand} {x' : Opnd} (ho : o.op = .box t x) (hx : okX x x' = true) (e : stepV (.boxB i n x') st = some (v, bx, hp)) : Out P o a ι0 σ0 w0 w (clearBox i st.sl) v bx hp := by
  have rx := okX_rel hx S
  simp only [stepV] at e
  split at e
  · rename_i hc
    obtain ⟨c1, c2, c3⟩ := hc
    cases e
    have rc := rel_relCells rx c3
    obtain ⟨s1, _⟩ := rx.cells c3
    obtain ⟨q1, q2, q3, q4, q5⟩ := newBox H B S T (arr := (a.eval x).cells) (el := t) c1 rc s1.symm
    exact ⟨_, _, _, ι, _, by simp [execOp, ho, Instr.box, newVar, newRow], .inl rfl, q1, q2, q3, q5, T.trans q4⟩
  · cases e

end
end Go.Ag
