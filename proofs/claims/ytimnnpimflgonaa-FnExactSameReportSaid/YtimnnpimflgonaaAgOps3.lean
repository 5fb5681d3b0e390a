/-
  EACH OPERATION THAT IS NO CALL: cuts, bytes to a string, struct equality, struct values.
-/
import Derived.Test.YtimnnpimflgonaaAgOps2
namespace Go.Ag

def okO : Option Operand → Option Opnd → Bool
  | none, none => true
  | some x, some y => okX x y
  | _, _ => false

theorem bound_spec {x : Option Operand} {y : Option Opnd} (h : okO x y = true) {ι : Inj} {σ : Heap} {β : Nat → Nat} {sl : List V} {a : Act} (S : SRel ι σ β sl a.tmps) {d n : Nat} (e : boundOf d (y.map (·.ev sl)) = some n) :
    (x = none ∧ n = d) ∨ ∃ q k i, x = some q ∧ a.eval q = .int k i ∧ 0 ≤ i ∧ n = i.toNat := by
  cases x with
  | none => cases y with
    | none => simp [boundOf] at e; exact .inl ⟨rfl, e.symm⟩
    | some y => simp [okO] at h
  | some x => cases y with
    | none => simp [okO] at h
    | some y =>
      have rx := okX_rel (show okX x y = true from h) S
      simp only [Option.map_some] at e
      unfold boundOf at e
      split at e
      · rename_i h1; cases h1
      · rename_i k i h1
        simp only [Option.some.injEq] at h1
        rw [h1] at rx
        split at e
        · rename_i hi
          cases e
          exact .inr ⟨x, k, i, rfl, rel_int rx, hi, rfl⟩
        · cases e
      · cases e

theorem run_bounds {P : Program} {w : World} {ι : Inj} {σ : Heap} {β : Nat → Nat} {sl : List V} {a : Act} (S : SRel ι σ β sl a.tmps) {lo hi : Option Operand} {lo' hi' : Option Opnd} (hlo : okO lo lo' = true) (hhi : okO hi hi' = true)
    {isS : Bool} {len cap l h : Nat} (el : boundOf 0 (lo'.map (·.ev sl)) = some l) (eh : boundOf len (hi'.map (·.ev sl)) = some h) (h1 : l ≤ h) (h2 : h ≤ cap) (h3 : hi = none → h ≤ cap) :
    (Instr.sliceBounds isS len cap (lo.map a.eval) (hi.map a.eval) none).run P w = .ok (l, h, cap) w := by
  rcases bound_spec hlo S el with ⟨rfl, rfl⟩ | ⟨q, k, i, rfl, eq, hi0, rfl⟩ <;> rcases bound_spec hhi S eh with ⟨rfl, rfl⟩ | ⟨q', k', i', rfl, eq', hi0', rfl⟩
  · simp [Instr.sliceBounds]
  · simp [Instr.sliceBounds, eq', run_sliceBound w k' i' cap _ hi0' (by omega)]
  · simp [Instr.sliceBounds, eq, run_sliceBound w k i h _ hi0 (by omega)]
  · simp [Instr.sliceBounds, eq, eq', run_sliceBound w k' i' cap _ hi0' (by omega), run_sliceBound w k i i'.toNat _ hi0 (by omega)]

theorem bytes_rel {ι : Inj} {β : Nat → Nat} {st : St} {cs : List V} {ws : List Value} {s : List UInt8} (e : bytesOf cs = some s) (hl : cs.length = ws.length) (h : ∀ (j : Nat) u y, cs[j]? = some u → ws[j]? = some y → Rel ι st.hp β u y) : ∃ ns : List Int, ws = ns.map (Value.int .u8) ∧ s = ns.map fun n => UInt8.ofNat n.toNat := by
  induction cs generalizing ws s with
  | nil => cases ws with
    | nil => simp [bytesOf] at e; exact ⟨[], rfl, by simpa using e.symm⟩
    | cons => simp at hl
  | cons c r ih => cases ws with
    | nil => simp at hl
    | cons y ys =>
      have h0 := h 0 c y rfl rfl
      unfold bytesOf at e
      split at e
      · rename_i h1; cases h1
      · rename_i n r' h1
        cases h1
        simp only [Option.map_eq_some_iff] at e
        obtain ⟨s', e1, e2⟩ := e
        obtain ⟨ns, hn1, hn2⟩ := ih e1 (by simpa using hl) (fun j u y hu hy => h (j + 1) u y (by simpa using hu) (by simpa using hy))
        exact ⟨n :: ns, by rw [rel_int h0, hn1]; rfl, by rw [← e2, hn2]; rfl⟩
      · cases e

section
variable {P : Program} {o : Oper} {a : Act} {ι : Inj} {β : Nat → Nat} {st : St} {w0 w : World} {v : V} {bx : List (List V)} {hp : Heap}
  (H : HRel ι st.hp w) (B : BRel ι st.hp β st.bx w0 w) (S : SRel ι st.hp β st.sl a.tmps) {ι0 : Inj} {σ0 : Heap} (T : Step ι0 σ0 w0 ι st.hp w)
include H B S T

theorem op_slice {t : TypeId} {ww : Nat} {x : Operand} {lo hi : Option Operand} {x' : Opnd} {lo' hi' : Option Opnd} (ho : o.op = .slice t x lo hi none) (hw : elemOK P t ww = true) (hx : okX x x' = true) (hlo : okO lo lo' = true) (hhi : okO hi hi' = true)
    (e : stepV (.slice ww x' lo' hi') st = some (v, bx, hp)) : Out P o a ι0 σ0 w0 w st.sl v bx hp := by
  have rx := okX_rel hx S
  obtain ⟨el, inf, z, h1, h2, h3, _, _, _⟩ := elemOK_spec hw
  have go : ∀ (b : Option Addr) (n c l h : Nat), a.eval x = .slice b n c → boundOf 0 (lo'.map (·.ev st.sl)) = some l → boundOf n (hi'.map (·.ev st.sl)) = some h → l ≤ h → h ≤ c →
      (execOp a.eval o).run P w = .ok (.value (.slice (if c = l then b else b.map (·.add (l * ww))) (h - l) (c - l))) w := by
    intro b n c l h ex el' eh' q1 q2
    have hb := run_bounds (P := P) (w := w) S hlo hhi (isS := true) (cap := c) el' eh' q1 q2 (fun _ => q2)
    simp only [execOp, ho, ex, Instr.sliceAt, Sem.run_bind, r_underlying h1, Result.andThen_ok, Instr.slice, Option.map_none]
    simp only [hb, Result.andThen_ok, r_size h2, h3]
    rfl
  simp only [stepV] at e
  split at e
  · rename_i hxe
    rw [hxe] at rx
    obtain ⟨b, ex⟩ := rel_nils rx
    simp only [Option.bind_eq_some_iff] at e
    obtain ⟨l, el', h, eh', e⟩ := e
    split at e
    · rename_i hz
      obtain ⟨rfl, rfl⟩ := hz
      cases e
      have := go b 0 0 0 0 ex el' eh' (Nat.le_refl _) (Nat.le_refl _)
      exact Out.pure H B S T this (by simpa using Rel.nils b) rfl
    · cases e
  · rename_i l q n hxe
    rw [hxe] at rx
    obtain ⟨blk, hb, hcase⟩ := rel_slice rx
    simp only [Option.bind_eq_some_iff] at e
    obtain ⟨lo1, el', hi1, eh', e⟩ := e
    split at e
    · rename_i hle
      obtain ⟨q1, q2, hbw⟩ := hle
      simp only [widthOf, hb, Option.some.injEq] at hbw
      cases e
      rcases hcase with ⟨c, ex, hn, hc⟩ | ⟨rfl, b, ex⟩
      · have hrun := go _ n c lo1 hi1 ex el' eh' q1 (Nat.le_trans q2 hn)
        refine Out.pure H B S T hrun ?_ rfl
        by_cases hcl : c = lo1
        · have e1 : hi1 - lo1 = 0 := by omega
          have e2 : c - lo1 = 0 := by omega
          rw [if_pos hcl, e1, e2]
          exact .sliceEnd l _ blk hb _
        · rw [if_neg hcl]
          have hm : (c - lo1) * blk.w + lo1 * blk.w = c * blk.w := by rw [← Nat.add_mul]; congr 1; omega
          have := Rel.slice (ι := ι) (σ := st.hp) (β := β) l (q + lo1 * ww) (hi1 - lo1) (c - lo1) blk hb (by omega) (by rw [← hbw]; omega)
          simpa [addr_add, Nat.add_assoc] using this
      · have h0 : lo1 = 0 ∧ hi1 = 0 := by omega
        obtain ⟨rfl, rfl⟩ := h0
        have := go b 0 0 0 0 ex el' eh' (Nat.le_refl _) (Nat.le_refl _)
        exact Out.pure H B S T this (by simpa using Rel.sliceEnd l q blk hb b) rfl
    · cases e
  · cases e

theorem op_substr {t : TypeId} {x : Operand} {lo hi : Option Operand} {x' : Opnd} {lo' hi' : Option Opnd} (ho : o.op = .slice t x lo hi none) (ht : P.underlying t = some .string) (hx : okX x x' = true) (hlo : okO lo lo' = true) (hhi : okO hi hi' = true)
    (e : stepV (.substr x' lo' hi') st = some (v, bx, hp)) : Out P o a ι0 σ0 w0 w st.sl v bx hp := by
  have rx := okX_rel hx S
  simp only [stepV] at e
  split at e
  · rename_i s hxe
    rw [hxe] at rx
    have ex := rel_str rx
    simp only [Option.bind_eq_some_iff] at e
    obtain ⟨l, el', h, eh', e⟩ := e
    split at e
    · rename_i hle
      cases e
      have hz : (ByteArray.mk s.toArray).size = s.length := List.size_toArray
      have hb := run_bounds (P := P) (w := w) S hlo hhi (isS := false) (cap := s.length) el' eh' hle.1 hle.2 (fun _ => hle.2)
      refine Out.pure H B S T (x := .string ⟨((s.drop l).take (h - l)).toArray⟩) ?_ (.str _) rfl
      simp only [execOp, ho, ex, Instr.sliceAt, Sem.run_bind, r_underlying ht, Result.andThen_ok, Instr.slice, Option.map_none]
      simp only [Sem.run_bind, Result.andThen_ok, hb, hz, Option.isSome_none, Bool.false_eq_true, if_false]
      have hx : (ByteArray.mk s.toArray).extract l h = ⟨((s.drop l).take (h - l)).toArray⟩ := by
        apply ByteArray.ext
        simp [List.extract_eq_take_drop]
      simp [hx]
    · cases e
  · cases e

theorem op_bstr {s d el : TypeId} {x : Operand} {x' : Opnd} (ho : o.op = .convert s d x) (hs : P.underlying s = some (.slice el)) (hel : P.underlying el = some (.int .u8)) (hd : P.underlying d = some .string) (hx : okX x x' = true)
    (e : stepV (.bstr x') st = some (v, bx, hp)) : Out P o a ι0 σ0 w0 w st.sl v bx hp := by
  have rx := okX_rel hx S
  have go : ∀ b n c, a.eval x = .slice b n c → (execOp a.eval o).run P w = ((Conv.bytesToString (.slice b n c)).run P w).andThen fun u w' => .ok (.value u) w' := by
    intro b n c ex
    simp [execOp, ho, ex, convert, r_underlying hs, r_underlying hd, r_underlying hel]
  simp only [stepV] at e
  split at e
  · rename_i hxe
    rw [hxe] at rx
    obtain ⟨b, ex⟩ := rel_nils rx
    cases e
    refine Out.pure H B S T (x := .string ⟨#[]⟩) ?_ (.str []) rfl
    rw [go _ _ _ ex]
    cases b with
    | none => simp [Conv.bytesToString]; rfl
    | some b =>
      have := run_bytesToString (P := P) w b 0 0 [] (by simp [loadCells, loadCellsFrom])
      rw [this]; rfl
  · rename_i l q n hxe
    rw [hxe] at rx
    obtain ⟨blk, hb, hcase⟩ := rel_slice rx
    simp only [Option.bind_eq_some_iff] at e
    obtain ⟨cs, e0, t, e1, e2⟩ := e
    cases e2
    obtain ⟨ws, q1, q2, q3, q4, q5⟩ := rd_cells H e0
    obtain ⟨ns, hn1, hn2⟩ := bytes_rel (β := β) e1 (by rw [q1, q2]) (fun j u y hu hy => q5 j u y hu hy _)
    have hfold : ∀ (ns : List Int) (r : ByteArray), ns.foldl (fun r n => r.push (UInt8.ofNat n.toNat)) r = ⟨r.data ++ (ns.map fun n => UInt8.ofNat n.toNat).toArray⟩ := by
      intro ns
      induction ns with
      | nil => intro r; simp
      | cons n ns ih =>
        intro r
        rw [List.foldl_cons, ih]
        apply ByteArray.ext
        apply Array.ext'
        simp [ByteArray.push]
    rcases hcase with ⟨c, ex, _, _⟩ | ⟨rfl, b, ex⟩
    · refine Out.pure H B S T (x := .string ⟨t.toArray⟩) ?_ (.str _) rfl
      rw [go _ _ _ ex]
      have hl := r_loadCells (P := P) q4
      rw [q1] at hl
      rw [run_bytesToString (P := P) w _ n c ns (by rw [hl, hn1])]
      rw [hfold, hn2]
      simp [ByteArray.empty, ByteArray.emptyWithCapacity]
      rfl
    · have ht : t = [] := by
        have : cs = [] := List.length_eq_zero_iff.1 q2
        subst this
        simp [bytesOf] at e1; exact e1
      subst ht
      refine Out.pure H B S T (x := .string ⟨#[]⟩) ?_ (.str []) rfl
      rw [go _ _ _ ex]
      cases b with
      | none => simp [Conv.bytesToString]; rfl
      | some b =>
        have := run_bytesToString (P := P) w b 0 0 [] (by simp [loadCells, loadCellsFrom])
        rw [this]; rfl
  · cases e

end
end Go.Ag
