/-
  EACH OPERATION THAT IS NO CALL: append.
-/
import Derived.Test.YtimnnpimflgonaaAgOps6
namespace Go.Ag

/-- What is appended: how long, which cells, in a world and in the same world behind a draw. -/
structure Src (P : Program) (w : World) (size : Nat) (x : Value) (n : Nat) (new : List Value) : Prop where
  len : ∀ w', (Builtin.lenOf x).run P w' = .ok n w'
  cells : (Builtin.firstCells size n x).run P w = .ok new.toArray w
  cells' : (Builtin.firstCells size n x).run P w.drew = .ok new.toArray w.drew
  size : new.length = n * size

section
variable {P : Program} {w : World} {t0 t1 ty el : TypeId} {inf : TypeInfo} {d1 : TypeDesc}
  (ht : P.underlying t0 = some (.slice el)) (hi : P.info? el = some inf) (ht1 : P.underlying t1 = some d1) (hd1 : (∃ e, d1 = .slice e) ∨ d1 = .string)
include ht hi ht1 hd1

theorem run_app_none {base : Option Addr} {sLen sCap : Nat} {x : Value} (hs : Src P w inf.size x 0 []) (hle : sLen ≤ sCap) :
    (Builtin.append_ #[t0, t1] ty #[.slice base sLen sCap, x]).run P w = .ok (.slice base sLen sCap) w := by
  have hst : ∀ a : Addr, (storeCells a ([] : List Value)).run P w = .ok () w := fun a => by simp [storeCells]
  rcases hd1 with ⟨e1, rfl⟩ | rfl <;> cases base <;> simp [Builtin.append_, r_underlying ht, r_underlying ht1, r_size hi, hs.len, hs.cells, hle, storeCells]

theorem run_app_room {b off sLen sCap n : Nat} {x : Value} {new : List Value} {arr : Array Value} {e : TypeId} (hs : Src P w inf.size x n new) (hb : w.heap[b]? = some (.cells arr e (0, 0))) (hroom : sLen + n ≤ sCap)
    (hfit : off + sLen * inf.size + new.length ≤ arr.size) (h1 : ∀ u ∈ new, u.oneCell' = true) :
    (Builtin.append_ #[t0, t1] ty #[.slice (some ⟨b, off, none⟩) sLen sCap, x]).run P w =
      .ok (.slice (some ⟨b, off, none⟩) (sLen + n) sCap) (w.setRow b (arr.toList.take (off + sLen * inf.size) ++ new ++ arr.toList.drop (off + sLen * inf.size + new.length)).toArray) := by
  have hst := run_storeCells_at P b (off + sLen * inf.size) e new 0 arr w hb (by simpa using hfit) h1
  simp only [Nat.add_zero] at hst
  rcases hd1 with ⟨e1, rfl⟩ | rfl <;> simp [Builtin.append_, r_underlying ht, r_underlying ht1, r_size hi, hs.len, hs.cells, hroom, addr_add, hst]

theorem run_app_grow {z : Value} (hz : inf.zero = some z) {base : Option Addr} {sLen sCap n : Nat} {x : Value} {old new : List Value} (hs : Src P w inf.size x n new) (hold : (Builtin.firstCells inf.size sLen (.slice base sLen sCap)).run P w.drew = .ok old.toArray w.drew)
    (hg : sCap < sLen + n) (hsm : sLen + n ≤ 2 ^ 40) (hby : inf.bytes ≤ 128) :
    (Builtin.append_ #[t0, t1] ty #[.slice base sLen sCap, x]).run P w =
      .ok (.slice (some ⟨w.heap.size, 0, none⟩) (sLen + n) (grownCap w (sLen + n) sCap el)) (w.drew.alloc (.cells (old.toArray ++ new.toArray ++ Builtin.zeroCells z.cells (grownCap w (sLen + n) sCap el - (sLen + n))) el)) := by
  have hn : ¬ (sLen + n ≤ sCap) := by omega
  have h63' : ¬ (9223372036854775807 < ((sLen : Int) + (n : Int))) := by omega
  have h48' : ¬ (281474976710656 < Builtin.nextslicecap (sLen + n) sCap * inf.bytes) := by
    have h1 := nextslicecap_le hg
    have h2 : Builtin.nextslicecap (sLen + n) sCap * inf.bytes ≤ (2 * (sLen + n)) * 128 := Nat.mul_le_mul h1 hby
    omega
  rcases hd1 with ⟨e1, rfl⟩ | rfl
  all_goals
    simp [Builtin.append_, r_underlying ht, r_underlying ht1, r_size hi, r_zero hi hz, r_info hi, hs.len, hs.cells', hold, hn, h63', h48', Question.forced, newRow, grownCap]
    congr 2
    apply Array.ext'
    simp [List.append_assoc]
end

/-- The source of an append. -/
theorem src_spec {P : Program} {ι : Inj} {β : Nat → Nat} {st : St} {w : World} (H : HRel ι st.hp w) {ww k : Nat} {y : V} {yv : Value} {new : List V} (ry : Rel ι st.hp β y yv) (e : srcCells st.hp ww y = some (new, k)) :
    ∃ ns : List Value, Src P w ww yv k ns ∧ RelCells ι st.hp new ns ∧ new.length = k * ww := by
  have sl : ∀ (a : Addr) (n c : Nat) (cs : List V) (ws : List Value), yv = .slice (some a) n c → ws.length = n * ww → cs.length = n * ww → (∀ u, u ∈ cs → u.cell = true) → (∀ (j : Nat) y, ws[j]? = some y → w.cell? (a.add j) = some y) →
      (∀ (j : Nat) u y, cs[j]? = some u → ws[j]? = some y → ∀ β', Rel ι st.hp β' u y) → Src P w ww yv n ws ∧ RelCells ι st.hp cs ws := by
    intro a n c cs ws ey h1 h2 h3 h4 h5
    have l1 := r_loadCells (P := P) h4
    have l2 := r_loadCells (P := P) (w := w.drew) (ad := a) (cs := ws) (fun j v hv => h4 j v hv)
    rw [h1] at l1 l2
    subst ey
    refine ⟨⟨fun w' => rfl, l1, l2, h1⟩, by omega, fun i v hv => ?_⟩
    have hlt : i < ws.length := by have := (List.getElem?_eq_some_iff.1 hv).1; omega
    exact ⟨h3 v (List.mem_of_getElem? hv), ws[i], List.getElem?_eq_getElem hlt, h5 i v _ hv (List.getElem?_eq_getElem hlt)⟩
  unfold srcCells at e
  split at e
  · cases e
    obtain ⟨b, rfl⟩ := rel_nils ry
    refine ⟨[], ⟨fun w' => rfl, ?_, ?_, by simp⟩, ⟨Nat.le_refl _, by simp⟩, by simp⟩
    · cases b <;> simp [Builtin.firstCells, loadCells, loadCellsFrom]
    · cases b <;> simp [Builtin.firstCells, loadCells, loadCellsFrom]
  · rename_i l q n
    simp only [Option.map_eq_some_iff] at e
    obtain ⟨cs, e1, e2⟩ := e
    cases e2
    obtain ⟨ws, q1, q2, q3, q4, q5⟩ := rd_cells H e1
    obtain ⟨blk, hb, hcase⟩ := rel_slice ry
    rcases hcase with ⟨c, ex, _⟩ | ⟨rfl, b, ex⟩
    · obtain ⟨r1, r2⟩ := sl _ k c _ ws ex q1 q2 q3 q4 q5
      exact ⟨ws, r1, r2, q2⟩
    · have hws : ws = [] := List.length_eq_zero_iff.1 (by rw [q1]; simp)
      have hcs : new = [] := List.length_eq_zero_iff.1 (by rw [q2]; simp)
      subst ex; subst hcs
      refine ⟨[], ⟨fun w' => rfl, ?_, ?_, by simp⟩, ⟨Nat.le_refl _, by simp⟩, by simp⟩
      · cases b <;> simp [Builtin.firstCells, loadCells, loadCellsFrom]
      · cases b <;> simp [Builtin.firstCells, loadCells, loadCellsFrom]
  · rename_i s
    split at e
    · rename_i hw1
      cases e
      subst hw1
      have ex := rel_str ry
      subst ex
      have hz : (ByteArray.mk s.toArray).size = s.length := List.size_toArray
      have hext : (ByteArray.mk s.toArray).extract 0 s.length = ⟨s.toArray⟩ := by
        apply ByteArray.ext
        simp
      refine ⟨s.map fun b => .int .u8 b.toNat, ⟨fun w' => by simp [Builtin.lenOf, hz], ?_, ?_, by simp⟩, ⟨by simp, fun i v hv => ?_⟩, by simp⟩
      · simp [Builtin.firstCells, hext]
      · simp [Builtin.firstCells, hext]
      · simp only [List.getElem?_map, Option.map_eq_some_iff] at hv
        obtain ⟨b, hb, rfl⟩ := hv
        exact ⟨rfl, .int .u8 b.toNat, by simp [hb], fun β => .int _ _⟩
    · cases e
  · cases e

section
variable {P : Program} {o : Oper} {a : Act} {ι : Inj} {β : Nat → Nat} {st : St} {w0 w : World} {v : V} {bx : List (List V)} {hp : Heap}
  (H : HRel ι st.hp w) (B : BRel ι st.hp β st.bx w0 w) (S : SRel ι st.hp β st.sl a.tmps) {ι0 : Inj} {σ0 : Heap} (T : Step ι0 σ0 w0 ι st.hp w)
include H B S T

theorem op_app {c : Call} {t0 t1 : TypeId} {ww : Nat} {x y : Operand} {x' y' : Opnd} {d1 : TypeDesc} (ho : o.op = .call c) (hc : c.callee = .builtin .append) (hargs : c.args = #[x, y]) (hts : c.argTypes = #[t0, t1]) (hw : elemOK P t0 ww = true)
    (ht1 : P.underlying t1 = some d1) (hd1 : (∃ e, d1 = .slice e) ∨ d1 = .string) (hx : okX x x' = true) (hy : okX y y' = true) (e : stepV (.app ww x' y') st = some (v, bx, hp)) : Out P o a ι0 σ0 w0 w st.sl v bx hp := by
  have rx := okX_rel hx S
  have ry := okX_rel hy S
  obtain ⟨el, inf, z, g1, g2, g3, g4, g5, g6⟩ := elemOK_spec hw
  have run : ∀ {r : Value} {w' : World}, (Builtin.append_ #[t0, t1] o.type #[a.eval x, a.eval y]).run P w = .ok r w' → (execOp a.eval o).run P w = .ok (.value r) w' := by
    intro r w' h
    rw [run_builtin ho hc]
    simp [builtin, hargs, hts, h]
  simp only [stepV] at e
  split at e
  · rename_i hw0
    simp only [Option.bind_eq_some_iff] at e
    obtain ⟨⟨u, h'⟩, e1, e2⟩ := e
    cases e2
    unfold app at e1
    split at e1
    · cases e1
    · rename_i new k hsrc
      obtain ⟨ns, hS, hR, hlen⟩ := src_spec (P := P) H ry hsrc
      have hS' : Src P w inf.size (a.eval y) k ns := by rw [g3]; exact hS
      have hns : ns.length = k * ww := hS.size
      -- a new block behind a source of which 'old' is kept
      have grow : ∀ (base : Option Addr) (sLen sCap : Nat) (σ' : Heap) (old : List V) (olds : List Value), a.eval x = .slice base sLen sCap → sCap < sLen + k → (sLen + k) * ww ≤ 2 ^ 40 → old.length = sLen * ww → olds.length = sLen * ww →
          (Builtin.firstCells inf.size sLen (.slice base sLen sCap)).run P w.drew = .ok olds.toArray w.drew → HRel ι σ' w → BRel ι σ' β st.bx w0 w → SRel ι σ' β st.sl a.tmps → Step ι0 σ0 w0 ι σ' w → RelCells ι σ' old olds → RelCells ι σ' new ns →
          Out P o a ι0 σ0 w0 w st.sl (.slice σ'.length 0 (sLen + k)) st.bx (σ' ++ [⟨.own, ww, old ++ new⟩]) := by
        intro base sLen sCap σ' old olds ex hg hsm ho1 ho2 hold H' B' S' T' hro hrn
        have hle : sLen + k ≤ 2 ^ 40 := Nat.le_trans (Nat.le_mul_of_pos_right _ hw0) hsm
        have hrun := run_app_grow (ty := o.type) g1 g2 ht1 hd1 g5 hS' hold hg hle g4
        rw [← ex] at hrun
        have hcapge := grownCap_ge w (sLen + k) sCap el
        have hsz : (olds.toArray ++ ns.toArray ++ Builtin.zeroCells z.cells (grownCap w (sLen + k) sCap el - (sLen + k))).size = grownCap w (sLen + k) sCap el * ww := by
          simp only [Array.size_append, size_zeroCells, g6, List.size_toArray, ho2, hns]
          rw [← Nat.add_mul, ← Nat.add_mul]
          congr 1; omega
        have hrc : RelCells ι σ' (old ++ new) (olds.toArray ++ ns.toArray ++ Builtin.zeroCells z.cells (grownCap w (sLen + k) sCap el - (sLen + k))).toList := by
          refine ⟨?_, fun i u hu => ?_⟩
          · simp [ho1, ho2, hlen, hns]
          · by_cases hi : i < old.length
            · rw [List.getElem?_append_left hi] at hu
              obtain ⟨q1, x1, q2, q3⟩ := hro.2 i u hu
              refine ⟨q1, x1, ?_, q3⟩
              simp only [Array.toList_append, List.append_assoc]
              rw [List.getElem?_append_left (by omega)]; exact q2
            · rw [List.getElem?_append_right (by omega)] at hu
              have hi2 := (List.getElem?_eq_some_iff.1 hu).1
              obtain ⟨q1, x1, q2, q3⟩ := hrn.2 _ u hu
              refine ⟨q1, x1, ?_, q3⟩
              simp only [Array.toList_append, List.append_assoc]
              rw [List.getElem?_append_right (by omega), List.getElem?_append_left (by omega)]
              have : i - olds.length = i - old.length := by omega
              rw [this]; exact q2
        obtain ⟨r1, r2, r3, r4⟩ := push_new H'.drew B'.drew S' (olds.toArray ++ ns.toArray ++ Builtin.zeroCells z.cells (grownCap w (sLen + k) sCap el - (sLen + k))) el ww (old ++ new) hrc
        refine ⟨_, _, _, _, β, run hrun, .inl rfl, r1, r2, r3, ?_, (T'.trans (Step.drew _ _ _)).trans r4⟩
        have := Rel.slice (ι := upd ι σ'.length ⟨w.drew.heap.size, 0, (olds.toArray ++ ns.toArray ++ Builtin.zeroCells z.cells (grownCap w (sLen + k) sCap el - (sLen + k))).size⟩) (σ := σ' ++ [⟨.own, ww, old ++ new⟩]) (β := β)
          σ'.length 0 (sLen + k) (grownCap w (sLen + k) sCap el) ⟨.own, ww, old ++ new⟩ (by simp) hcapge (by rw [upd_same, hsz]; simp)
        rwa [upd_same] at this
      have none0 : k = 0 → ns = [] := fun h => List.length_eq_zero_iff.1 (by rw [hns, h]; simp)
      split at e1
      · -- to nothing
        rename_i hxe
        rw [hxe] at rx
        obtain ⟨b, ex⟩ := rel_nils rx
        split at e1
        · rename_i hk
          cases e1
          subst hk
          have hnn := none0 rfl
          subst hnn
          have hrun := run_app_none (ty := o.type) g1 g2 ht1 hd1 (base := b) (sLen := 0) (sCap := 0) hS' (Nat.le_refl _)
          rw [← ex] at hrun
          exact Out.pure H B S T (run hrun) rx rfl
        · split at e1
          · rename_i hk hroom
            cases e1
            unfold roomy at hroom
            have := grow b 0 0 st.hp [] [] ex (by omega) (by simpa using hroom) (by simp) (by simp) (by cases b <;> simp [Builtin.firstCells, loadCells, loadCellsFrom]) H B S T ⟨Nat.le_refl _, by simp⟩ hR
            simpa using this
          · cases e1
      · rename_i l q n hxe
        rw [hxe] at rx
        obtain ⟨blk, hb, hcase⟩ := rel_slice rx
        split at e1
        · -- nothing is appended
          rename_i hk
          cases e1
          subst hk
          have hnn := none0 rfl
          subst hnn
          rcases hcase with ⟨cc, ex, hn, _⟩ | ⟨rfl, b, ex⟩
          · have hrun := run_app_none (ty := o.type) g1 g2 ht1 hd1 (base := some ⟨(ι l).b, (ι l).o + q, none⟩) hS' hn
            rw [← ex] at hrun
            exact Out.pure H B S T (run hrun) rx rfl
          · have hrun := run_app_none (ty := o.type) g1 g2 ht1 hd1 (base := b) (sLen := 0) (sCap := 0) hS' (Nat.le_refl _)
            rw [← ex] at hrun
            exact Out.pure H B S T (run hrun) rx rfl
        · rename_i hk
          rw [hb] at e1
          simp only at e1
          split at e1
          · rename_i hcond
            obtain ⟨k1, k2, k3, k4, k5⟩ := hcond
            cases e1
            unfold roomy at k5
            subst k3
            subst k2
            obtain ⟨z0, arr, e0, harr, hsz, hrc⟩ := H.ownCells hb k1
            have hrle := hrc.1
            simp only [Array.length_toList] at hrle
            -- the dead source
            have K := keeps_set ι st.hp l blk ⟨.dead, blk.w, []⟩ hb rfl
            have Hk := H.kill hb
            have Sk := S.mono K
            have Bk : BRel ι (st.hp.set l ⟨.dead, blk.w, []⟩) β st.bx w0 w := B.mono K (fun _ _ _ _ => rfl) (Nat.le_refl _) fun i cs j b hi hne hj hbk => by
              rcases set_get hj with ⟨_, rfl, _⟩ | ⟨_, hj⟩
              · exact absurd rfl hbk
              · exact B.heap i cs j b hi hne hj hbk
            have Tk : Step ι0 σ0 w0 ι (st.hp.set l ⟨.dead, blk.w, []⟩) w := T.trans
              { keeps := K
                kinds := fun j b b' hj hj' => by
                  rcases set_get hj' with ⟨rfl, rfl, _⟩ | ⟨_, hj'⟩
                  · rw [hb] at hj; cases hj; exact .inr ⟨k1, rfl⟩
                  · rw [hj] at hj'; cases hj'; exact .inl rfl
                fresh := fun j b' hle' hj hbk => by
                  rcases set_get hj with ⟨_, rfl, _⟩ | ⟨_, hj⟩
                  · exact absurd rfl hbk
                  · have := get_len hj; omega
                frame := fun _ _ _ => rfl
                size := Nat.le_refl _
                os := rfl
                output := rfl
                tape := rfl }
            have hcl : (blk.cs.take (n * blk.w)).length = n * blk.w := by simp; omega
            have hrt : RelCells ι (st.hp.set l ⟨.dead, blk.w, []⟩) (blk.cs.take (n * blk.w)) (arr.toList.take (n * blk.w)) := by
              refine ⟨by simp; omega, fun i u hu => ?_⟩
              rw [List.getElem?_take] at hu
              split at hu
              · rename_i hi
                obtain ⟨q1, x1, q2, q3⟩ := hrc.2 i u hu
                exact ⟨q1, x1, by rw [List.getElem?_take, if_pos hi]; exact q2, fun β => (q3 β).cellMono K q1⟩
              · cases hu
            have hRk := hR.mono K
            rcases hcase with ⟨cc, ex, hn, hcc⟩ | ⟨rfl, b, ex⟩
            · rw [z0] at ex
              simp only [Nat.zero_add] at ex hcc
              by_cases hroom : n + k ≤ cc
              · -- in place
                have hfit : 0 + n * inf.size + ns.length ≤ arr.size := by
                  rw [g3, hns, hsz, Nat.zero_add, ← Nat.add_mul]
                  exact Nat.le_trans (Nat.mul_le_mul_right _ hroom) hcc
                have hone : ∀ u ∈ ns, u.oneCell' = true := by
                  intro u hu
                  obtain ⟨i, hi⟩ := List.getElem?_of_mem hu
                  have hlt : i < new.length := by have := (List.getElem?_eq_some_iff.1 hi).1; omega
                  obtain ⟨q1, x1, q2, q3⟩ := hR.2 i _ (List.getElem?_eq_getElem hlt)
                  rw [hi] at q2; cases q2
                  exact (q3 β).oneCell q1
                have hrun := run_app_room (ty := o.type) g1 g2 ht1 hd1 hS' harr hroom hfit hone
                rw [← ex] at hrun
                rw [g3, Nat.zero_add] at hrun
                have hfree : ∀ (j : Nat) (b : Blk), (st.hp.set l ⟨.dead, blk.w, []⟩)[j]? = some b → b.k ≠ .dead → (ι j).b ≠ (ι l).b := by
                  intro j b hj hbk
                  rcases set_get hj with ⟨_, rfl, _⟩ | ⟨hjl, hj⟩
                  · exact absurd rfl hbk
                  · exact fun g => H.apart l j blk b (Ne.symm hjl) hb hj k1 hbk g.symm
                have hsz2 : ((arr.toList.take (n * blk.w) ++ ns ++ arr.toList.drop (n * blk.w + ns.length)).toArray).size = arr.size := by
                  rw [g3, Nat.zero_add] at hfit
                  simp; omega
                have hrc2 : RelCells ι (st.hp.set l ⟨.dead, blk.w, []⟩) (blk.cs.take (n * blk.w) ++ new) (arr.toList.take (n * blk.w) ++ ns ++ arr.toList.drop (n * blk.w + ns.length)).toArray.toList := by
                  have hal : (arr.toList.take (n * blk.w)).length = n * blk.w := by simp; omega
                  refine ⟨by simp; omega, fun i u hu => ?_⟩
                  by_cases hi : i < (blk.cs.take (n * blk.w)).length
                  · rw [List.getElem?_append_left hi] at hu
                    obtain ⟨q1, x1, q2, q3⟩ := hrt.2 i u hu
                    refine ⟨q1, x1, ?_, q3⟩
                    simp only [List.append_assoc]
                    rw [List.getElem?_append_left (by omega)]; exact q2
                  · rw [List.getElem?_append_right (by omega)] at hu
                    have hi2 := (List.getElem?_eq_some_iff.1 hu).1
                    obtain ⟨q1, x1, q2, q3⟩ := hRk.2 _ u hu
                    refine ⟨q1, x1, ?_, q3⟩
                    simp only [List.append_assoc]
                    rw [List.getElem?_append_right (by omega), List.getElem?_append_left (by omega), hal]
                    rw [hcl] at q2; exact q2
                have Had := (Hk.setRow (arr' := (arr.toList.take (n * blk.w) ++ ns ++ arr.toList.drop (n * blk.w + ns.length)).toArray) hfree).adopt (wd := blk.w) (setRow_get harr) hfree hrc2
                have KP := keeps_push ι (st.hp.set l ⟨.dead, blk.w, []⟩) ⟨(ι l).b, 0, (arr.toList.take (n * blk.w) ++ ns ++ arr.toList.drop (n * blk.w + ns.length)).toArray.size⟩ ⟨.own, blk.w, blk.cs.take (n * blk.w) ++ new⟩
                have hslen : (st.hp.set l ⟨.dead, blk.w, []⟩).length = st.hp.length := by simp
                refine ⟨_, _, _, _, β, run hrun, .inl rfl, Had, ?_, Sk.mono KP, ?_, ?_⟩
                · refine Bk.mono KP (fun i cs hi hne => setRow_other (fun g => B.heap i cs l blk hi hne hb (by rw [k1]; decide) g.symm)) (by rw [setRow_size]; exact Nat.le_refl _) fun i cs j b hi hne hj hbk => ?_
                  rcases push_get hj with ⟨hlt, hj⟩ | ⟨rfl, rfl⟩
                  · rw [upd_other _ _ _ _ (by omega)]; exact Bk.heap i cs j b hi hne hj hbk
                  · rw [upd_same]; exact B.heap i cs l blk hi hne hb (by rw [k1]; decide)
                · have := Rel.slice (ι := upd ι (st.hp.set l ⟨.dead, blk.w, []⟩).length ⟨(ι l).b, 0, (arr.toList.take (n * blk.w) ++ ns ++ arr.toList.drop (n * blk.w + ns.length)).toArray.size⟩)
                    (σ := (st.hp.set l ⟨.dead, blk.w, []⟩) ++ [⟨.own, blk.w, blk.cs.take (n * blk.w) ++ new⟩]) (β := β) (st.hp.set l ⟨.dead, blk.w, []⟩).length 0 (n + k) cc ⟨.own, blk.w, blk.cs.take (n * blk.w) ++ new⟩ (by rw [List.getElem?_append_right (Nat.le_refl _)]; simp) hroom
                    (by rw [upd_same]; simp only [hsz2, hsz]; omega)
                  rw [upd_same] at this
                  simpa [hslen] using this
                · refine T.trans { keeps := K.trans KP, kinds := fun j b b' hj hj' => ?_, fresh := fun j b' hle' hj hbk => ?_, frame := fun b hb' hf => setRow_other (fun g => hf l blk hb k1 g.symm), size := by rw [setRow_size]; exact Nat.le_refl _, os := rfl, output := rfl, tape := rfl }
                  · rcases push_get hj' with ⟨hlt, hj'⟩ | ⟨rfl, rfl⟩
                    · rcases set_get hj' with ⟨rfl, rfl, _⟩ | ⟨_, hj'⟩
                      · rw [hb] at hj; cases hj; exact .inr ⟨k1, rfl⟩
                      · rw [hj] at hj'; cases hj'; exact .inl rfl
                    · have := get_len hj; omega
                  · rcases push_get hj with ⟨hlt, hj⟩ | ⟨rfl, rfl⟩
                    · omega
                    · rw [upd_same]; exact ⟨rfl, .inr ⟨l, blk, hb, k1, rfl⟩⟩
              · -- the row is full
                have hol : (arr.toList.take (n * blk.w)).length = n * blk.w := by simp; omega
                have hload : ∀ w' : World, w'.heap = w.heap → (Builtin.firstCells inf.size n (.slice (some ⟨(ι l).b, 0, none⟩) n cc)).run P w' = .ok (arr.toList.take (n * blk.w)).toArray w' := by
                  intro w' hw'
                  have := r_loadCells (P := P) (w := w') (ad := ⟨(ι l).b, 0, none⟩) (cs := arr.toList.take (n * blk.w)) (fun j u hu => by
                    rw [addr_add, Nat.zero_add]
                    rw [List.getElem?_take] at hu
                    split at hu
                    · simp only [World.cell?, hw', harr]; simpa using hu
                    · cases hu)
                  rw [hol] at this
                  simp only [Builtin.firstCells, g3]
                  exact this
                have := grow _ n cc (st.hp.set l ⟨.dead, blk.w, []⟩) (blk.cs.take (n * blk.w)) (arr.toList.take (n * blk.w)) ex (by omega) k5 hcl hol (hload _ rfl) Hk Bk Sk Tk hrt hRk
                simpa using this
            · -- an empty slice at a row's end
              have h0 : (blk.cs.take (0 * blk.w)) = [] := by simp
              have := grow b 0 0 (st.hp.set l ⟨.dead, blk.w, []⟩) [] [] ex (by omega) (by simpa using k5) (by simp) (by simp) (by cases b <;> simp [Builtin.firstCells, loadCells, loadCellsFrom]) Hk Bk Sk Tk ⟨Nat.le_refl _, by simp⟩ hRk
              simpa [h0] using this
          · cases e1
      · cases e1
  · cases e

end
end Go.Ag
