/-
  EACH OPERATION THAT IS NO CALL: slices that are written out, stores, append.
-/
import Derived.Test.YtimnnpimflgonaaAgOps5
namespace Go.Ag

/-- A row that nothing that lives lies in is written. -/
theorem setRow_get {w : World} {b : Nat} {arr arr' : Array Value} {e : TypeId} (hb : w.heap[b]? = some (.cells arr e (0, 0))) : (w.setRow b arr').heap[b]? = some (.cells arr' e (0, 0)) := by
  simp [World.setRow, Array.getElem?_modify, hb]
theorem setRow_other {w : World} {b k : Nat} {arr' : Array Value} (h : k ≠ b) : (w.setRow b arr').heap[k]? = w.heap[k]? := by
  simp only [World.setRow, Array.getElem?_modify]
  rw [if_neg (Ne.symm h)]
theorem setRow_size (w : World) (b : Nat) (arr' : Array Value) : (w.setRow b arr').heap.size = w.heap.size := by simp [World.setRow]

theorem HRel.setRow {ι : Inj} {σ : Heap} {w : World} (h : HRel ι σ w) {b : Nat} {arr' : Array Value} (hf : ∀ (l : Nat) (blk : Blk), σ[l]? = some blk → blk.k ≠ .dead → (ι l).b ≠ b) : HRel ι σ (w.setRow b arr') where
  cells l blk hl hk i v hv := by
    obtain ⟨q, x, y, z⟩ := h.cells l blk hl hk i v hv
    exact ⟨q, x, by rw [World.cell?_of_block (w := w) (setRow_other (hf l blk hl hk))]; exact y, z⟩
  own l blk hl hk := by
    obtain ⟨p, q, arr, e, r, s⟩ := h.own l blk hl hk
    exact ⟨p, q, arr, e, by rw [setRow_other (hf l blk hl (by rw [hk]; decide))]; exact r, s⟩
  apart := h.apart
  there l blk hl hk := by rw [setRow_size]; exact h.there l blk hl hk

/-- The cells of an owned block, as the row holds them. -/
theorem HRel.ownCells {ι : Inj} {σ : Heap} {w : World} (h : HRel ι σ w) {l : Nat} {blk : Blk} (hl : σ[l]? = some blk) (hk : blk.k = .own) :
    (ι l).o = 0 ∧ ∃ arr e, w.heap[(ι l).b]? = some (.cells arr e (0, 0)) ∧ arr.size = (ι l).c ∧ RelCells ι σ blk.cs arr.toList := by
  obtain ⟨h1, h2, arr, e, h3, h4⟩ := h.own l blk hl hk
  refine ⟨h1, arr, e, h3, h4, by simp; omega, fun i v hv => ?_⟩
  obtain ⟨q, x, y, z⟩ := h.cells l blk hl (by rw [hk]; decide) i v hv
  refine ⟨q, x, ?_, z⟩
  rw [h1, Nat.zero_add] at y
  simp only [World.cell?, h3] at y
  simpa using y

/-- A store of some cells. -/
theorem run_storeVar' {P : Program} {w : World} {t : TypeId} {n : Nat} {inf : TypeInfo} (hi : P.info? t = some inf) (hs : inf.size = n) {b off : Nat} {arr : Array Value} {el : TypeId} (hb : w.heap[b]? = some (.cells arr el (0, 0))) {x : Value} (hx : x.cells.size = n) (hfit : off + n ≤ arr.size)
    (h1 : ∀ u ∈ x.cells.toList, u.oneCell' = true) :
    (Instr.storeAt t (.pointer (some ⟨b, off, none⟩)) x).run P w = .ok () (w.setRow b (arr.toList.take off ++ x.cells.toList ++ arr.toList.drop (off + n)).toArray) := by
  have hst := run_storeCells_at P b off el x.cells.toList 0 arr w hb (by simp; omega) h1
  have hl : x.cells.toList.length = n := by simpa using hx
  simp only [Nat.add_zero, hl] at hst
  simp [Instr.storeAt, Instr.sureAddr, storeVar, r_size hi, hs, hx, hst]

section
variable {P : Program} {o : Oper} {a : Act} {ι : Inj} {β : Nat → Nat} {st : St} {w0 w : World} {v : V} {bx : List (List V)} {hp : Heap}
  (H : HRel ι st.hp w) (B : BRel ι st.hp β st.bx w0 w) (S : SRel ι st.hp β st.sl a.tmps) {ι0 : Inj} {σ0 : Heap} (T : Step ι0 σ0 w0 ι st.hp w)
include H B S T

theorem op_litSlice {t el : TypeId} {ww n : Nat} {parts : Array (Nat × Operand)} {zs : List V} {ps : List (Nat × Nat × Opnd)} {z : Value} {inf : TypeInfo} (ho : o.op = .buildSlice t n parts) (ht : P.underlying t = some (.slice el)) (hi : P.info? el = some inf)
    (hz : inf.zero = some z) (hs : inf.size = ww) (hcap : n * ww ≤ 2 ^ 24) (hzz : okCells (madeCells z.cells (n * ww)).toList zs = true) (hpp : okParts (fun i => some (i * ww, ww)) parts.toList ps = true)
    (h0 : n = 0 → ps = []) (e : stepV (.litSlice ww n zs ps) st = some (v, bx, hp)) : Out P o a ι0 σ0 w0 w st.sl v bx hp := by
  have hzl : zs.length = n * ww := by rw [okCells_len hzz]; simp [size_madeCells]
  have run : ∀ (arr : Array Value), Instr.fill (fun i => some (i * ww, ww)) (madeCells z.cells (n * ww)) (parts.toList.map fun p => (p.1, a.eval p.2)) = some arr →
      (execOp a.eval o).run P w = .ok (.value (.slice (some ⟨w.heap.size, 0, none⟩) n n)) (w.alloc (.cells arr el)) := by
    intro arr harr
    have hn : ¬ (n * ww > 2 ^ 24) := by omega
    have hmap : (parts.map fun (i, x) => (i, a.eval x)).toList = parts.toList.map fun p => (p.1, a.eval p.2) := by simp
    by_cases hnz : n * ww = 0
    · have hm : madeCells z.cells (n * ww) = #[] := by rw [hnz]; simp [madeCells]
      rw [hm] at harr
      simp only [execOp, ho, Instr.buildSlice, Sem.run_bind, r_underlying ht, Result.andThen_ok, r_size hi, hs, if_neg hn, hmap]
      simp only [hnz, if_true, Sem.run_pure, Array.range_zero', Array.map_empty, harr]
      simp [newRow]
    · have hm : (Array.range (n * ww)).map (fun i => z.cells[i % z.cells.size]!) = madeCells z.cells (n * ww) := rfl
      simp only [execOp, ho, Instr.buildSlice, Sem.run_bind, r_underlying ht, Result.andThen_ok, r_size hi, hs, if_neg hn, hmap, if_neg hnz, r_zero hi hz, Sem.run_pure, hm, harr]
      simp [newRow]
  simp only [stepV] at e
  split at e
  · rename_i hn
    cases e
    have := h0 hn
    subst this
    have hp0 : parts.toList = [] := by
      cases hq : parts.toList with
      | nil => rfl
      | cons x r => rw [hq] at hpp; simp [okParts] at hpp
    have hr := run (madeCells z.cells (n * ww)) (by rw [hp0]; rfl)
    subst hn
    refine ⟨_, _, _, ι, β, hr, .inl rfl, H.alloc _, B.alloc _, S, .nils _, T.trans (Step.alloc _ _ _ _)⟩
  · split at e
    · simp only [Option.bind_eq_some_iff] at e
      obtain ⟨out, e1, e2⟩ := e
      cases e2
      obtain ⟨arr, q1, q2, q3, q4⟩ := fill_spec S (fun i => some (i * ww, ww)) parts.toList ps (madeCells z.cells (n * ww)) zs out hpp (okCells_relCells hzz _ _) (by rw [hzl]; simp [size_madeCells]) e1
      have hr := run arr q1
      obtain ⟨r1, r2, r3, r4⟩ := push_new H B S arr el ww out q2
      refine ⟨_, _, _, _, β, hr, .inl rfl, r1, r2, r3, ?_, T.trans r4⟩
      have := Rel.slice (ι := upd ι st.hp.length ⟨w.heap.size, 0, arr.size⟩) (σ := st.hp ++ [⟨.own, ww, out⟩]) (β := β) st.hp.length 0 n n ⟨.own, ww, out⟩ (by simp) (Nat.le_refl _)
        (by rw [upd_same]; simp [q4, size_madeCells])
      rwa [upd_same] at this
    · cases e

theorem op_storeB {t : TypeId} {i n : Nat} {inf : TypeInfo} {x y : Operand} {x' y' : Opnd} (ho : o.op = .store t x y) (hi : P.info? t = some inf) (hs : inf.size = n) (hx : okX x x' = true) (hy : okX y y' = true)
    (e : stepV (.storeB i n x' y') st = some (v, bx, hp)) : Out P o a ι0 σ0 w0 w st.sl v bx hp := by
  have rx := okX_rel hx S
  have ry := okX_rel hy S
  simp only [stepV] at e
  split at e
  · rename_i j q hxe
    rw [hxe] at rx
    have ex := rel_box rx
    split at e
    · rename_i hc
      obtain ⟨rfl, c1, c2, c3, c4⟩ := hc
      cases e
      have rc := rel_relCells ry c4
      obtain ⟨s1, s2⟩ := ry.cells c4
      have hone : ∀ u ∈ (a.eval y).cells.toList, u.oneCell' = true := by
        intro u hu
        obtain ⟨k, hk⟩ := List.getElem?_of_mem hu
        have hlt : k < (y'.ev st.sl).cells.length := by
          have := (List.getElem?_eq_some_iff.1 hk).1; simp at this; omega
        obtain ⟨g1, z, g2, g3⟩ := rc.2 k _ (List.getElem?_eq_getElem hlt)
        rw [hk] at g2; cases g2
        exact (g3 β).oneCell g1
      have hbi : st.bx[i]? = some (getB st.bx i) := by
        rw [getB_eq, List.getElem?_eq_getElem c1]; rfl
      by_cases hne : getB st.bx i = []
      · -- a store of nothing
        have hn0 : n = 0 := by rw [hne] at c3; simp at c3; omega
        subst hn0
        have hnil : (y'.ev st.sl).cells = [] := List.length_eq_zero_iff.1 c2
        have hcz : (a.eval y).cells = #[] := by
          apply Array.eq_empty_of_size_eq_zero; rw [s1, c2]
        have hsp : splice (getB st.bx i) q (y'.ev st.sl).cells = getB st.bx i := by rw [hnil, hne]; cases q <;> rfl
        have hpb : putB st.bx i (getB st.bx i) = st.bx := by
          apply List.ext_getElem?
          intro m
          rw [putB_get]
          split
          · rename_i h; rw [h.1, hbi]
          · rfl
        rw [hsp, hpb]
        refine ⟨.skip, Go.undef, w, ι, β, ?_, .inr ⟨rfl, rfl⟩, H, B, S, .undef _, T⟩
        simp [execOp, ho, ex, Instr.storeAt, Instr.sureAddr, storeVar, r_size hi, hs, hcz, storeCells]
      · obtain ⟨arr, el, harr, hsz, hcells⟩ := B.cells i _ hbi hne
        have hrun := run_storeVar' (P := P) hi hs harr (x := a.eval y) (off := q) (by rw [s1, c2]) (by omega) hone
        have hbn := B.new i _ hbi hne
        have hfree : ∀ (l : Nat) (blk : Blk), st.hp[l]? = some blk → blk.k ≠ .dead → (ι l).b ≠ β i := fun l blk hl hk => B.heap i _ l blk hbi hne hl hk
        refine ⟨.skip, Go.undef, _, ι, β, by simp only [execOp, ho, ex, Sem.run_bind, hrun, Result.andThen_ok]; rfl, .inr ⟨rfl, rfl⟩, H.setRow hfree, ?_, S, .undef _, ?_⟩
        · have hput : ∀ (m : Nat) c, (putB st.bx i (splice (getB st.bx i) q (y'.ev st.sl).cells))[m]? = some c → (m = i ∧ c = splice (getB st.bx i) q (y'.ev st.sl).cells) ∨ (m ≠ i ∧ st.bx[m]? = some c) := by
            intro m c h
            rw [putB_get] at h
            by_cases hm : m = i
            · rw [if_pos ⟨hm, c1⟩] at h; cases h; exact .inl ⟨hm, rfl⟩
            · rw [if_neg (fun g => hm g.1)] at h; exact .inr ⟨hm, h⟩
          have hrc : RelCells ι st.hp (getB st.bx i) arr.toList := ⟨by simp [hsz], fun k u hu => by
            obtain ⟨g1, z, g2, g3⟩ := hcells k u hu
            exact ⟨g1, z, by simpa using g2, g3⟩⟩
          have hnew := hrc.splice rc (o := q) (by simp [s1]) (by omega)
          have hL : (a.eval y).cells.toList.length = n := by simp; omega
          rw [hL] at hnew
          refine ⟨fun m c hm hcn => ?_, fun m c hm hcn => ?_, fun m m' c c' hmm hm hm' hcn hcn' => ?_, fun m c l blk hm hcn hl hk => ?_⟩
          · rcases hput m c hm with ⟨rfl, rfl⟩ | ⟨hmi, hg⟩
            · refine ⟨_, el, setRow_get harr, by simp [splice_len]; omega, fun k u hu => ?_⟩
              obtain ⟨g1, z, g2, g3⟩ := hnew.2 k u hu
              exact ⟨g1, z, by simpa using g2, g3⟩
            · obtain ⟨arr', e', h1, h2⟩ := B.cells m c hg hcn
              exact ⟨arr', e', by rw [setRow_other (B.apart m i c _ hmi hg hbi hcn hne)]; exact h1, h2⟩
          · rw [setRow_size]
            rcases hput m c hm with ⟨rfl, rfl⟩ | ⟨hmi, hg⟩
            · exact hbn
            · exact B.new m c hg hcn
          · rcases hput m c hm with ⟨rfl, rfl⟩ | ⟨hmi, hg⟩ <;> rcases hput m' c' hm' with ⟨rfl, rfl⟩ | ⟨hmi', hg'⟩
            · exact absurd rfl hmm
            · exact B.apart _ _ _ _ hmm hbi hg' hne hcn'
            · exact B.apart _ _ _ _ hmm hg hbi hcn hne
            · exact B.apart m m' c c' hmm hg hg' hcn hcn'
          · rcases hput m c hm with ⟨rfl, rfl⟩ | ⟨hmi, hg⟩
            · exact hfree l blk hl hk
            · exact B.heap m c l blk hg hcn hl hk
        · -- seen from outside: only a box of this frame is written
          exact { T with
            frame := fun b hb hf => by rw [setRow_other (by omega)]; exact T.frame b hb hf
            size := by rw [setRow_size]; exact T.size }
    · cases e
  · cases e

theorem op_storeH {t : TypeId} {n : Nat} {inf : TypeInfo} {x y : Operand} {x' y' : Opnd} (ho : o.op = .store t x y) (hi : P.info? t = some inf) (hs : inf.size = n) (hx : okX x x' = true) (hy : okX y y' = true)
    (e : stepV (.storeH n x' y') st = some (v, bx, hp)) : Out P o a ι0 σ0 w0 w st.sl v bx hp := by
  have rx := okX_rel hx S
  have ry := okX_rel hy S
  simp only [stepV] at e
  split at e
  · rename_i l q hxe
    rw [hxe] at rx
    obtain ⟨_, ex⟩ := rel_ptr rx
    split at e
    · rename_i hc
      obtain ⟨c1, c2⟩ := hc
      simp only [Option.bind_eq_some_iff] at e
      obtain ⟨h', e1, e2⟩ := e
      cases e2
      unfold wr at e1
      split at e1
      · rename_i blk hb
        split at e1
        · rename_i hk
          obtain ⟨k1, k2⟩ := hk
          cases e1
          have rc := rel_relCells ry c2
          obtain ⟨s1, s2⟩ := ry.cells c2
          have hone : ∀ u ∈ (a.eval y).cells.toList, u.oneCell' = true := by
            intro u hu
            obtain ⟨k, hk⟩ := List.getElem?_of_mem hu
            have hlt : k < (y'.ev st.sl).cells.length := by
              have := (List.getElem?_eq_some_iff.1 hk).1; simp at this; omega
            obtain ⟨g1, z, g2, g3⟩ := rc.2 k _ (List.getElem?_eq_getElem hlt)
            rw [hk] at g2; cases g2
            exact (g3 β).oneCell g1
          obtain ⟨z0, arr, el, harr, hsz, hrc⟩ := H.ownCells hb k1
          have hle := hrc.1
          simp at hle
          rw [z0, Nat.zero_add] at ex
          have hrun := run_storeVar' (P := P) hi hs harr (x := a.eval y) (off := q) (by rw [s1, c1]) (by omega) hone
          have hL : (a.eval y).cells.toList.length = n := by simp; omega
          have hnew := hrc.splice rc (o := q) (by simp [s1]) (by omega)
          rw [hL] at hnew
          have K := keeps_set ι st.hp l blk { blk with cs := splice blk.cs q (y'.ev st.sl).cells } hb rfl
          have hset : ∀ (j : Nat) (b : Blk), (st.hp.set l { blk with cs := splice blk.cs q (y'.ev st.sl).cells })[j]? = some b → (j = l ∧ b = { blk with cs := splice blk.cs q (y'.ev st.sl).cells }) ∨ (j ≠ l ∧ st.hp[j]? = some b) := by
            intro j b hj
            rcases set_get hj with ⟨h1, h2, _⟩ | h
            · exact .inl ⟨h1, h2⟩
            · exact .inr h
          have hoth : ∀ (j : Nat) (b : Blk), j ≠ l → st.hp[j]? = some b → b.k ≠ .dead → (ι j).b ≠ (ι l).b := fun j b hjl hj hbk => fun g => H.apart l j blk b (Ne.symm hjl) hb hj k1 hbk g.symm
          have hsize : ((arr.toList.take q ++ (a.eval y).cells.toList ++ arr.toList.drop (q + n)).toArray).size = arr.size := by simp; omega
          refine ⟨.skip, Go.undef, w.setRow (ι l).b (arr.toList.take q ++ (a.eval y).cells.toList ++ arr.toList.drop (q + n)).toArray, ι, β, by simp only [execOp, ho, ex, Sem.run_bind, hrun, Result.andThen_ok]; rfl, .inr ⟨rfl, rfl⟩, ⟨fun j b hj hbk i u hu => ?_, fun j b hj hbk => ?_, fun j j' b b' hne hj hj' hbk hbk' => ?_, fun j b hj hbk => ?_⟩, ?_, S.mono K, .undef _, ?_⟩
          · rcases hset j b hj with ⟨rfl, rfl⟩ | ⟨hjl, hj⟩
            · obtain ⟨g1, z, g2, g3⟩ := hnew.2 i u hu
              refine ⟨g1, z, ?_, fun β => (g3 β).cellMono K g1⟩
              rw [z0, Nat.zero_add]
              simp only [World.cell?, setRow_get harr]
              simpa using g2
            · obtain ⟨g1, z, g2, g3⟩ := H.cells j b hj hbk i u hu
              exact ⟨g1, z, by rw [World.cell?_of_block (w := w) (setRow_other (hoth j b hjl hj hbk))]; exact g2, fun β => (g3 β).cellMono K g1⟩
          · rcases hset j b hj with ⟨rfl, rfl⟩ | ⟨hjl, hj⟩
            · exact ⟨z0, by simp [splice_len]; omega, _, el, setRow_get harr, by rw [hsize, hsz]⟩
            · obtain ⟨g1, g2, arr', e', g3, g4⟩ := H.own j b hj hbk
              exact ⟨g1, g2, arr', e', by rw [setRow_other (hoth j b hjl hj (by rw [hbk]; decide))]; exact g3, g4⟩
          · rcases hset j b hj with ⟨rfl, rfl⟩ | ⟨hjl, hg⟩ <;> rcases hset j' b' hj' with ⟨rfl, rfl⟩ | ⟨hjl', hg'⟩
            · exact absurd rfl hne
            · exact H.apart _ _ _ _ hne hb hg' k1 hbk'
            · exact H.apart _ _ _ _ hne hg hb hbk (by rw [k1]; decide)
            · exact H.apart j j' b b' hne hg hg' hbk hbk'
          · rw [setRow_size]
            rcases hset j b hj with ⟨rfl, rfl⟩ | ⟨hjl, hj⟩
            · exact H.there _ _ hb hbk
            · exact H.there j b hj hbk
          · refine B.mono K (fun i cs hi hne => setRow_other (fun g => B.heap i cs l blk hi hne hb (by rw [k1]; decide) g.symm)) (by rw [setRow_size]; exact Nat.le_refl _) fun i cs j b hi hne hj hbk => ?_
            rcases hset j b hj with ⟨rfl, rfl⟩ | ⟨hjl, hj⟩
            · exact B.heap i cs _ blk hi hne hb hbk
            · exact B.heap i cs j b hi hne hj hbk
          · refine T.trans { keeps := K, kinds := fun j b b' hj hj' => ?_, fresh := fun j b' hle' hj hbk => ?_, frame := fun b hb' hf => setRow_other (fun g => hf l blk hb k1 g.symm), size := by rw [setRow_size]; exact Nat.le_refl _, os := rfl, output := rfl, tape := rfl }
            · rcases hset j b' hj' with ⟨rfl, rfl⟩ | ⟨hjl, hj'⟩
              · rw [hb] at hj; cases hj; exact .inl rfl
              · rw [hj] at hj'; cases hj'; exact .inl rfl
            · rcases hset j b' hj with ⟨rfl, rfl⟩ | ⟨hjl, hj⟩
              · have := get_len hb; omega
              · have := get_len hj; omega
        · cases e1
      · cases e1
    · cases e
  · cases e

end
end Go.Ag
