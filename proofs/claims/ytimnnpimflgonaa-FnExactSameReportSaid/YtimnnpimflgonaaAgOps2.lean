/-
  EACH OPERATION THAT IS NO CALL: addresses, parts, loads, cuts of slices and strings.
-/
import Derived.Test.YtimnnpimflgonaaAgOps1
namespace Go.Ag

theorem addr_add (b o n : Nat) : (⟨b, o, none⟩ : Addr).add n = ⟨b, o + n, none⟩ := by
  unfold Addr.add
  split
  · rename_i h; subst h; rfl
  · rfl

theorem r_loadCells {P : Program} {w : World} {ad : Addr} {cs : List Value} (h : ∀ (j : Nat) v, cs[j]? = some v → w.cell? (ad.add j) = some v) : (loadCells ad cs.length).run P w = .ok cs.toArray w :=
  run_loadCells_list w ad cs h

/-- A variable whose cells are known is loaded. -/
theorem run_loadVar' {P : Program} {w : World} {t : TypeId} {n : Option Nat} (ht : okVar P t n = true) {ad : Addr} {cs : List Value} (hl : cs.length = n.getD 1) (h : ∀ (j : Nat) v, cs[j]? = some v → w.cell? (ad.add j) = some v) :
    (n.isSome = true → (loadVar t ad).run P w = .ok (.agg cs.toArray) w) ∧ (n = none → ∀ x, cs = [x] → (loadVar t ad).run P w = .ok x w) := by
  obtain ⟨d, i, hd, hi, hagg, hsz⟩ := okVar_spec ht
  refine ⟨fun hn => ?_, fun hn x hx => ?_⟩
  · have hc := r_loadCells (P := P) h
    rw [hl, ← hsz] at hc
    simp only [loadVar, Sem.run_bind, r_isAgg hd, Result.andThen_ok, hagg, hn, if_true, r_size hi, hc]
    rfl
  · subst hn
    subst hx
    have h0 := h 0 x rfl
    have e0 : ad.add 0 = ad := by simp [Addr.add]
    rw [e0] at h0
    simp [loadVar, r_isAgg hd, hagg, h0]

/-- The cells that are read in the heap lie in the world. -/
theorem rd_cells {ι : Inj} {st : St} {w : World} (H : HRel ι st.hp w) {l q n : Nat} {cs : List V} (e : rd st.hp l q n = some cs) : ∃ ws : List Value, ws.length = n ∧ cs.length = n ∧ (∀ u, u ∈ cs → u.cell = true) ∧
    (∀ (j : Nat) y, ws[j]? = some y → w.cell? ((⟨(ι l).b, (ι l).o + q, none⟩ : Addr).add j) = some y) ∧ ∀ (j : Nat) u y, cs[j]? = some u → ws[j]? = some y → ∀ β', Rel ι st.hp β' u y := by
  obtain ⟨b, hb, hk, hle, rfl⟩ := rd_spec e
  have key : ∀ j, j < n → ∃ y, w.cell? ((⟨(ι l).b, (ι l).o + q, none⟩ : Addr).add j) = some y ∧ ∀ u, b.cs[q + j]? = some u → u.cell = true ∧ ∀ β', Rel ι st.hp β' u y := by
    intro j hj
    have hlt : q + j < b.cs.length := by omega
    obtain ⟨hc, y, hy, hr⟩ := H.cells l b hb hk (q + j) _ (List.getElem?_eq_getElem hlt)
    refine ⟨y, by rw [addr_add, Nat.add_assoc]; exact hy, fun u hu => ?_⟩
    rw [List.getElem?_eq_getElem hlt] at hu
    cases hu
    exact ⟨hc, hr⟩
  let ws : List Value := (List.range n).map fun j => (w.cell? ((⟨(ι l).b, (ι l).o + q, none⟩ : Addr).add j)).getD default
  have hws : ∀ j y, ws[j]? = some y → j < n ∧ w.cell? ((⟨(ι l).b, (ι l).o + q, none⟩ : Addr).add j) = some y := by
    intro j y hy
    have hj : j < n := by
      rcases Nat.lt_or_ge j n with h | h
      · exact h
      · simp [ws, h] at hy
    obtain ⟨y', hy', _⟩ := key j hj
    simp [ws, hj, hy'] at hy
    subst hy
    exact ⟨hj, hy'⟩
  refine ⟨ws, by simp [ws], take_drop_len hle, fun u hu => ?_, fun j y hy => (hws j y hy).2, fun j u y hu hy β' => ?_⟩
  · obtain ⟨k, hk'⟩ := List.getElem?_of_mem hu
    obtain ⟨hkn, hk'⟩ := take_drop_get hk'
    obtain ⟨_, _, h⟩ := key k hkn
    exact (h u hk').1
  · obtain ⟨hj, hu⟩ := take_drop_get hu
    obtain ⟨y', hy', h⟩ := key j hj
    have := (hws j y hy).2
    rw [hy'] at this
    cases this
    exact (h u hu).2 β'

section
variable {P : Program} {o : Oper} {a : Act} {ι : Inj} {β : Nat → Nat} {st : St} {w0 w : World} {v : V} {bx : List (List V)} {hp : Heap}
  (H : HRel ι st.hp w) (B : BRel ι st.hp β st.bx w0 w) (S : SRel ι st.hp β st.sl a.tmps) {ι0 : Inj} {σ0 : Heap} (T : Step ι0 σ0 w0 ι st.hp w)
include H B S T

theorem op_fieldA {t : TypeId} {f off : Nat} {n : Option Nat} {x : Operand} {x' : Opnd} (ho : o.op = .fieldAddr t x f) (hf : fieldOK P t f off n = true) (hx : okX x x' = true)
    (e : stepV (.fieldA off x') st = some (v, bx, hp)) : Out P o a ι0 σ0 w0 w st.sl v bx hp := by
  have rx := okX_rel hx S
  obtain ⟨fs, g, h1, h2, h3, h4, h5⟩ := fieldOK_spec hf
  obtain ⟨d, i, hd, hi, _, hsz⟩ := okVar_spec h4
  have hne : i.size ≠ 0 := by
    rw [hsz]
    cases n with
    | none => simp
    | some m => simpa using h5
  have go : ∀ b q, a.eval x = .pointer (some ⟨b, q, none⟩) → (execOp a.eval o).run P w = .ok (.value (.pointer (some ⟨b, q + off, none⟩))) w := by
    intro b q ex
    simp [execOp, ho, ex, Instr.fieldAt, r_underlying h1, h2, Instr.sureAddr, fieldPlace, r_size hi, hne, addr_add, h3]
  simp only [stepV] at e
  split at e
  · rename_i j q hxe
    rw [hxe] at rx
    have ex := rel_box rx
    cases e
    exact Out.pure H B S T (go _ _ ex) (.box _ _) rfl
  · rename_i l q hxe
    rw [hxe] at rx
    obtain ⟨⟨blk, hb⟩, ex⟩ := rel_ptr rx
    cases e
    have := Rel.ptr (ι := ι) (σ := st.hp) (β := β) l (q + off) blk hb
    exact Out.pure H B S T (go _ _ ex) (by rwa [← Nat.add_assoc] at this) rfl
  · cases e

theorem op_field {t : TypeId} {f off : Nat} {n : Option Nat} {x : Operand} {x' : Opnd} (ho : o.op = .field t x f) (hf : fieldOK P t f off n = true) (hx : okX x x' = true)
    (e : stepV (.field off n x') st = some (v, bx, hp)) : Out P o a ι0 σ0 w0 w st.sl v bx hp := by
  have rx := okX_rel hx S
  obtain ⟨fs, g, h1, h2, h3, h4, h5⟩ := fieldOK_spec hf
  obtain ⟨d, i, hd, hi, hag, hsz⟩ := okVar_spec h4
  simp only [stepV] at e
  split at e
  · rename_i cs hxe
    rw [hxe] at rx
    obtain ⟨ws, ex, hl, hk, h⟩ := rel_agg rx
    split at e
    · rename_i hle
      simp only [Option.bind_eq_some_iff] at e
      obtain ⟨u, e1, e2⟩ := e
      cases e2
      have hws : ((ws.drop off).take (n.getD 1)).length = n.getD 1 := by simp; omega
      have hcs := take_drop_len hle
      rcases rel_aggOr (ι := ι) (σ := st.hp) (β := β) (ws := (ws.drop off).take (n.getD 1)) e1 (by rw [hws, hcs])
        (fun u hu => hk u (List.mem_of_mem_drop (List.mem_of_mem_take hu)))
        (fun j u y hu hy => by
          obtain ⟨_, hu⟩ := take_drop_get hu
          obtain ⟨_, hy⟩ := take_drop_get hy
          exact h _ _ _ hu hy) with ⟨hn, hr⟩ | ⟨hn, y, hy, hr⟩
      · refine Out.pure H B S T ?_ hr rfl
        simp [execOp, ho, ex, Instr.field, r_underlying h1, h2, part, asAgg, r_isAgg hd, hag, hn, r_size hi, hsz, h3, List.extract_eq_take_drop]
      · refine Out.pure H B S T ?_ hr rfl
        subst hn
        have hy0 : ws[off]? = some y := by
          have : ((ws.drop off).take 1)[0]? = some y := by
            have := congrArg (fun l : List Value => l[0]?) hy
            simpa using this
          rw [List.getElem?_take] at this
          simpa using this
        simp [execOp, ho, ex, Instr.field, r_underlying h1, h2, part, asAgg, r_isAgg hd, hag, h3, hy0]
    · cases e
  · cases e

theorem op_indexA {t : TypeId} {ww : Nat} {x i : Operand} {x' i' : Opnd} (ho : o.op = .indexAddr t x i) (hw : elemOK P t ww = true) (hx : okX x x' = true) (hi : okX i i' = true)
    (e : stepV (.indexA ww x' i') st = some (v, bx, hp)) : Out P o a ι0 σ0 w0 w st.sl v bx hp := by
  have rx := okX_rel hx S
  have ri := okX_rel hi S
  obtain ⟨el, inf, z, h1, h2, h3, _, _, _⟩ := elemOK_spec hw
  simp only [stepV] at e
  split at e
  · rename_i l q n k j hxe hie
    rw [hxe] at rx; rw [hie] at ri
    obtain ⟨blk, hb, h⟩ := rel_slice rx
    have ei := rel_int ri
    split at e
    · rename_i hj
      cases e
      rcases h with ⟨c, ex, hn, hc⟩ | ⟨rfl, _⟩
      · have := Rel.ptr (ι := ι) (σ := st.hp) (β := β) l (q + j.toNat * ww) blk hb
        refine Out.pure H B S T ?_ this rfl
        have hj' : 0 ≤ j ∧ j < (n : Int) := hj
        simp [execOp, ho, ex, ei, Instr.indexAt, asIntOf, r_underlying h1, hj', r_size h2, h3, addr_add, Nat.add_assoc]
      · omega
    · cases e
  · cases e

theorem op_index {t : TypeId} {x i : Operand} {x' i' : Opnd} (ho : o.op = .index t x i) (ht : P.underlying t = some .string) (hx : okX x x' = true) (hi : okX i i' = true)
    (e : stepV (.index x' i') st = some (v, bx, hp)) : Out P o a ι0 σ0 w0 w st.sl v bx hp := by
  have rx := okX_rel hx S
  have ri := okX_rel hi S
  simp only [stepV] at e
  split at e
  · rename_i s k j hxe hie
    rw [hxe] at rx; rw [hie] at ri
    have ex := rel_str rx
    have ei := rel_int ri
    split at e
    · rename_i hj
      split at e
      · rename_i b hb
        cases e
        refine Out.pure H B S T (x := .int .u8 b.toNat) ?_ (.int _ _) rfl
        have hlt : j.toNat < s.length := (List.getElem?_eq_some_iff.1 hb).1
        have hb' : (⟨s.toArray⟩ : ByteArray)[j.toNat]? = some b := by
          rw [ByteArray.getElem?_lt' _ _ (by simpa [ByteArray.size] using hlt)]
          have := (List.getElem?_eq_some_iff.1 hb).2
          exact congrArg some this
        simp [execOp, ho, ex, ei, Instr.index, asIntOf, r_underlying ht, hj, hb']
      · cases e
    · cases e
  · cases e

theorem op_loadB {t : TypeId} {i : Nat} {n : Option Nat} {x : Operand} {x' : Opnd} (ho : o.op = .load t x) (ht : okVar P t n = true) (hx : okX x x' = true) (e : stepV (.loadB i n x') st = some (v, bx, hp)) : Out P o a ι0 σ0 w0 w st.sl v bx hp := by
  have rx := okX_rel hx S
  simp only [stepV] at e
  split at e
  · rename_i j q hxe
    rw [hxe] at rx
    have ex := rel_box rx
    split at e
    · rename_i hc
      obtain ⟨rfl, hle⟩ := hc
      simp only [Option.bind_eq_some_iff] at e
      obtain ⟨u, e1, e2⟩ := e
      cases e2
      by_cases h0 : n.getD 1 = 0
      · -- nothing is read
        have hn : n = some 0 := by cases n with | none => simp at h0 | some m => simpa using h0
        subst hn
        simp [aggOr] at e1
        subst e1
        have := (run_loadVar' ht (w := w) (ad := ⟨β i, q, none⟩) (cs := []) rfl (fun j v h => by simp at h)).1 rfl
        exact Out.pure H B S T (x := .agg #[]) (by simp [execOp, ho, ex, Instr.loadAt, Instr.sureAddr, this]) (.agg [] [] rfl (by simp) (by simp)) rfl
      · have hne : getB st.bx i ≠ [] := fun h => by rw [h] at hle; simp at hle; omega
        have hbi : st.bx[i]? = some (getB st.bx i) := by
          rw [getB_eq] at hne ⊢
          cases h : st.bx[i]? with
          | none => rw [h] at hne; exact absurd rfl hne
          | some c => rfl
        obtain ⟨arr, el, harr, hsz, hcells⟩ := B.cells i _ hbi hne
        have hsub : ((arr.toList.drop q).take (n.getD 1)).length = n.getD 1 := by simp; omega
        have hload : ∀ (j : Nat) y, ((arr.toList.drop q).take (n.getD 1))[j]? = some y → w.cell? ((⟨β i, q, none⟩ : Addr).add j) = some y := by
          intro j y hy
          obtain ⟨_, hy⟩ := take_drop_get hy
          rw [addr_add]
          simp only [World.cell?, harr]
          simpa using hy
        have hl := run_loadVar' (P := P) ht hsub hload
        rcases rel_aggOr (ι := ι) (σ := st.hp) (β := β) (ws := (arr.toList.drop q).take (n.getD 1)) e1 (by rw [hsub, take_drop_len hle])
          (fun u hu => by
            obtain ⟨k, hk⟩ := List.getElem?_of_mem hu
            obtain ⟨_, hk⟩ := take_drop_get hk
            exact (hcells _ _ hk).1)
          (fun j u y hu hy => by
            obtain ⟨_, hu⟩ := take_drop_get hu
            obtain ⟨_, y', hy', hr⟩ := hcells _ _ hu
            obtain ⟨_, hy⟩ := take_drop_get hy
            have : arr[q + j]? = some y := by simpa using hy
            rw [hy'] at this; cases this; exact hr _) with ⟨hn, hr⟩ | ⟨hn, y, hy, hr⟩
        · exact Out.pure H B S T (by simp [execOp, ho, ex, Instr.loadAt, Instr.sureAddr, hl.1 hn]) hr rfl
        · exact Out.pure H B S T (by simp [execOp, ho, ex, Instr.loadAt, Instr.sureAddr, hl.2 hn y hy]) hr rfl
    · cases e
  · cases e

theorem op_loadH {t : TypeId} {n : Option Nat} {x : Operand} {x' : Opnd} (ho : o.op = .load t x) (ht : okVar P t n = true) (hx : okX x x' = true) (e : stepV (.loadH n x') st = some (v, bx, hp)) : Out P o a ι0 σ0 w0 w st.sl v bx hp := by
  have rx := okX_rel hx S
  simp only [stepV] at e
  split at e
  · rename_i l q hxe
    rw [hxe] at rx
    obtain ⟨_, ex⟩ := rel_ptr rx
    simp only [Option.bind_eq_some_iff] at e
    obtain ⟨cs, e0, u, e1, e2⟩ := e
    cases e2
    obtain ⟨ws, h1, h2, h3, h4, h5⟩ := rd_cells H e0
    have hl := run_loadVar' (P := P) ht h1 h4
    rcases rel_aggOr (ι := ι) (σ := st.hp) (β := β) e1 (by rw [h1, h2]) h3 (fun j u y hu hy => h5 j u y hu hy _) with ⟨hn, hr⟩ | ⟨hn, y, hy, hr⟩
    · exact Out.pure H B S T (by simp [execOp, ho, ex, Instr.loadAt, Instr.sureAddr, hl.1 hn]) hr rfl
    · exact Out.pure H B S T (by simp [execOp, ho, ex, Instr.loadAt, Instr.sureAddr, hl.2 hn y hy]) hr rfl
  · cases e

end
end Go.Ag
