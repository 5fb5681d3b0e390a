/- Part 3 of what FnExactReportOf needs. No conditions. -/
import Derived.Test.YthljgcjmaabnoaaLibB
namespace Go.Ag
set_option linter.unusedSimpArgs false
set_option linter.unusedVariables false
theorem Core.renh {h h' : Heap} {ω : Nat → W} {A A' : Fam} (c : Core h ω A) {f : Ren} (hf : f.Ok) (ht : ∀ l, (∀ i, ω l ≠ .ptr i) → h'[l]? = h[l]?) (hk : ∀ l i, ω l = .ptr i → ∃ b, h'[l]? = some b ∧ b.k = .own) (hlen : h'.length = h.length)
    (hA : ∀ hd p, Moved f A (A' hd p) hd p ∨ RC h' (fun l => Ag.ren f (ω l)) (.at hd p) (A' hd p).1 (A' hd p).2) :
    Core h' (fun l => Ag.ren f (ω l)) A' ∧ Tr h ω h' (fun l => Ag.ren f (ω l)) f (fun _ => False) := by
  have t : Tr h ω h' (fun l => Ag.ren f (ω l)) f (fun _ => False) :=
    ⟨fun l e => ⟨by simp [e, Ag.ren], ht l (fun i => by simp [e])⟩, fun l hd p e _ => ⟨by simp [e, Ag.ren], ht l (fun i => by simp [e])⟩, fun l i e => by simp [e, Ag.ren]⟩
  refine ⟨⟨fun hd p => ?_, fun l l' hd p e e' => ?_, fun l l' i e e' => c.injp l l' i (ren_ptr hf e) (ren_ptr hf e'), fun l e => ?_, fun l e => ?_⟩, t⟩
  · rcases hA hd p with ⟨hd0, p0, e1, ho, hb⟩ | hr
    · rw [e1] at ho hb ⊢
      exact (c.rc hd0 p0).tr t (fun e => ⟨fun _ _ _ => id, fun r => ho e r⟩) (fun hb' pb tp e => ⟨fun _ _ _ => id, hb hb' pb tp e⟩)
    · exact hr
  · obtain ⟨a, q, e1, e2⟩ := ren_own e
    obtain ⟨a', q', e1', e2'⟩ := ren_own e'
    obtain ⟨rfl, rfl⟩ := hf.inj a q a' q' hd p e2 e2'
    exact c.inj l l' a q e1 e1'
  · rcases e with ⟨hd, p, e⟩ | ⟨i, e⟩
    · obtain ⟨a, q, e1, _⟩ := ren_own e
      obtain ⟨b, hb, hk'⟩ := c.kind l (.inl ⟨a, q, e1⟩)
      exact ⟨b, by rw [ht l (fun i => by simp [e1])]; exact hb, hk'⟩
    · exact hk l i (ren_ptr hf e)
  · rw [hlen]
    cases e1 : ω l with
    | own a q => obtain ⟨b, hb, _⟩ := c.kind l (.inl ⟨a, q, e1⟩); exact get_len hb
    | frz => exact c.lt l e1
    | _ => rw [e1] at e; simp [Ag.ren] at e
section
variable {h0 : Heap} {ω0 ω : Nat → W} {ρ : Nat → Nat} {st st' st1 : PS} {us us' : St} {X X' : Hands}
theorem RS.renh (R : RS h0 ω0 ω ρ st us X) {f : Ren} (hf : f.Ok) (hh : ∀ l a q i r, ω l = .own a q → f a q = .own (.h i) r → i < st'.hp.length)
    (ht : ∀ l, (∀ i, ω l ≠ .ptr i) → us'.hp[l]? = us.hp[l]?) (hk : ∀ l i, ω l = .ptr i → ∃ b, us'.hp[l]? = some b ∧ b.k = .own) (hlen : us'.hp.length = us.hp.length)
    (hA : ∀ hd p, MovedX f (fam ρ st us X) (fam ρ st' us' X' hd p) hd p ∨ nobx (fam ρ st' us' X' hd p).1 ∧ RC us'.hp (fun l => Ag.ren f (ω l)) (.at hd p) (fam ρ st' us' X' hd p).1 (fam ρ st' us' X' hd p).2)
    (hs : ∀ t, Shp (pget st'.sl t) (get us'.sl t)) (hx : ∀ i, Shp (X' i).1 (X' i).2) (l1 : st'.sl.length = us'.sl.length) (l2 : st'.bx.length = us'.bx.length)
    (l3 : ∀ i, (pgetB st'.bx i).length = (getB us'.bx i).length) (c1 : ∀ i c, (pget (pgetB st'.bx i) c).lay = true) (c2 : ∀ i c, (pget (pgetB st'.hp i) c).lay = true)
    (l4 : st'.hp.length = st.hp.length) (l5 : ∀ i, i < st.hp.length → (blkcs us'.hp (ρ i)).length = (pgetB st'.hp i).length) : RS h0 ω0 (fun l => Ag.ren f (ω l)) ρ st' us' X' := by
  obtain ⟨hc, _⟩ := R.core.renh (A' := fam ρ st' us' X') hf ht hk hlen fun hd p => by
    rcases hA hd p with ⟨a, b, e, h1, h2⟩ | h
    · refine .inl ⟨a, b, e, h1, fun hb pb tp e' => h2 hb pb tp e' ?_⟩
      rintro i rfl
      rw [e] at e'
      exact R.nx a b i pb tp e'
    · exact .inr h.2
  refine ⟨hc, hs, hx, l1, l2, l3, c1, c2, fun i hi => ?_, fun l i e => ?_, fun l i p e => ?_, ?_, fun hd p i pb tp => ?_⟩
  · rw [l4] at hi
    exact ⟨by simp [(R.hp i hi).1, Ag.ren], l5 i hi⟩
  · rw [l4]; exact R.bdp l i (ren_ptr hf e)
  · obtain ⟨a, q, e1, e2⟩ := ren_own e
    exact hh l a q i p e1 e2
  · have F := R.fr.ren f
    refine ⟨by rw [hlen]; exact F.len, fun l hl e => ?_, F.new, F.ptr⟩
    obtain ⟨a, b⟩ := F.old l hl e
    refine ⟨?_, b⟩
    rw [ht l, a]
    intro i e'
    obtain ⟨_, b'⟩ := R.fr.old l hl e
    rw [e'] at b'
    rcases e with e | e <;> rw [e] at b' <;> cases b'
  · rcases hA hd p with ⟨a, b, e, _⟩ | h
    · rw [e]; exact R.nx a b i pb tp
    · exact h.1 i pb tp
theorem cellL_get {cs : List PV} (h : cellL cs = true) (c : Nat) : (pget cs c).lay = true ∧ (c < cs.length → (pget cs c).cell = true) := by
  induction cs generalizing c with
  | nil => exact ⟨rfl, fun h => by simp at h⟩
  | cons x r ih =>
    simp only [cellL, Bool.and_eq_true] at h
    cases c with
    | zero =>
      refine ⟨?_, fun _ => h.1⟩
      simp only [pget]
      cases x with
      | sl q es => cases q <;> first | rfl | (simp [PV.cell] at h)
      | fl => rfl
      | _ => simp [PV.cell] at h
    | succ c => exact ⟨(ih h.2 c).1, fun hl => (ih h.2 c).2 (by simpa using hl)⟩
theorem cell_V {H : Heap} {ω : Nat → W} {m : Md} {v : PV} {u : V} (r : RC H ω m v u) (h : v.cell = true) : u.cell = true := by
  cases r with
  | undef => simp [PV.cell, V.flat] at h
  | v _ _ hx => cases u <;> first | rfl | simp [V.flat] at hx
  | nil => rfl
  | sl => rfl
  | ep => simp [PV.cell] at h
  | box => simp [PV.cell] at h
  | ptr => simp [PV.cell] at h
theorem cells_len {v : PV} {u : V} (h : Shp v u) (hc : cellL v.cells = true) : u.cells.length = v.cells.length ∧ (∀ vs, v ≠ .tup vs) ∧ ∀ vs, u ≠ .tup vs := by
  cases v with
  | agg cs => obtain ⟨ws, rfl, h2⟩ := h; exact ⟨h2, fun _ h => (by cases h), fun _ h => (by cases h)⟩
  | tup vs => simp [PV.cells, cellL, PV.cell] at hc
  | fl x =>
    cases x <;> first | (simp [PV.cells, cellL, PV.cell, V.flat] at hc; done) | skip
    all_goals
      refine ⟨?_, fun _ h => (by cases h), h.2⟩
      cases u <;> first | rfl | exact absurd rfl (h.1 _) | exact absurd rfl (h.2 _)
  | _ =>
    refine ⟨?_, fun _ h => (by cases h), h.2⟩
    cases u <;> first | rfl | exact absurd rfl (h.1 _) | exact absurd rfl (h.2 _)
theorem RS.hand_cells {i : Nat} {v : PV} {u : V} (R : RS h0 ω0 ω ρ st us X) (e : X i = (v, u)) (hc : cellL v.cells = true) :
    u.cells.length = v.cells.length ∧ u.cells.all V.cell = true ∧ (∀ c, RC us.hp ω (.at (.x i) [c]) (pget v.cells c) (get u.cells c)) ∧ ∀ c, fam ρ st us X (.x i) [c] = (pget v.cells c, get u.cells c) := by
  have hs := R.shx i
  rw [e] at hs
  obtain ⟨h1, h2, h3⟩ := cells_len hs hc
  have hf : ∀ c, fam ρ st us X (.x i) [c] = (pget v.cells c, get u.cells c) := fun c => by
    simp only [fam, e, fcell_cells h2, vfcell_cells h3]
  have hr : ∀ c, RC us.hp ω (.at (.x i) [c]) (pget v.cells c) (get u.cells c) := fun c => by
    have := R.core.rc (.x i) [c]; rw [hf] at this; exact this
  refine ⟨h1, ?_, hr, hf⟩
  rw [List.all_eq_true]
  intro w hw
  obtain ⟨c, hc', rfl⟩ := List.getElem_of_mem hw
  have := cell_V (hr c) ((cellL_get hc c).2 (by simp only at h1 ⊢; omega))
  rw [get_eq, List.getElem?_eq_getElem hc'] at this
  exact this
theorem RS.storemv {v : PV} {u : V} (R : RS h0 ω0 ω ρ st us (X1 v u)) {hd : Hd} {cs : List PV} {ws : List V} {o : Nat} (hx : ∀ i, hd ≠ .x i) (hsl : ∀ t, hd ≠ .s t) (hhd : ∀ i, hd = .h i → i < st'.hp.length)
    (hc : cellL v.cells = true) (hfam : ∀ p, fam ρ st us (X1 v u) hd p = cellAt cs ws p) (hfam' : ∀ p, fam ρ st' us' X0 hd p = cellAt (psplice cs o v.cells) (splice ws o u.cells) p)
    (hoth : ∀ hd' p, hd' ≠ hd → (∀ t, hd' ≠ .s t) → (∀ i, hd' ≠ .x i) → fam ρ st' us' X0 hd' p = fam ρ st us (X1 v u) hd' p ∨ (fam ρ st' us' X0 hd' p).1 = .fl .undef) (hus : us'.sl = us.sl)
    (hsl' : st'.sl = if PV.ownL (segm cs o v.cells.length) || v.own then clr hd st.sl else st.sl) (hlen : ws.length = cs.length) (hle : o + v.cells.length ≤ cs.length) (hlay : ∀ c, (pget cs c).lay = true)
    (ht : ∀ l, (∀ i, ω l ≠ .ptr i) → us'.hp[l]? = us.hp[l]?) (hk : ∀ l i, ω l = .ptr i → ∃ b, us'.hp[l]? = some b ∧ b.k = .own) (hlh : us'.hp.length = us.hp.length)
    (l2 : st'.bx.length = us'.bx.length) (l3 : ∀ i, (pgetB st'.bx i).length = (getB us'.bx i).length) (c1 : ∀ i c, (pget (pgetB st'.bx i) c).lay = true) (c2 : ∀ i c, (pget (pgetB st'.hp i) c).lay = true)
    (l4 : st'.hp.length = st.hp.length) (l5 : ∀ i, i < st.hp.length → (blkcs us'.hp (ρ i)).length = (pgetB st'.hp i).length) : ∃ ω', RS h0 ω0 ω' ρ st' us' X0 := by
  obtain ⟨k1, k2, k3, k4⟩ := R.hand_cells (i := 0) (v := v) (u := u) rfl hc
  have hrc : ∀ c, RC us.hp ω (.at hd [c]) (pget cs c) (get ws c) := fun c => by have := R.core.rc hd [c]; rw [hfam] at this; exact this
  have hcell : ∀ c, cellAt (psplice cs o v.cells) (splice ws o u.cells) [c] = if o ≤ c ∧ c < o + v.cells.length then (pget v.cells (c - o), get u.cells (c - o)) else (pget cs c, get ws c) := by
    intro c
    simp only [cellAt]
    rw [psplice_get _ _ _ _ hle, splice_get' _ _ _ _ (by omega), k1]
    split <;> rfl
  have hc1 : ∀ p, (∃ c, p = [c]) ∨ (cellAt (psplice cs o v.cells) (splice ws o u.cells) p).1 = .fl .undef := by
    intro p
    match p with
    | [c] => exact .inl ⟨c, rfl⟩
    | [] => exact .inr rfl
    | _ :: _ :: _ => exact .inr rfl
  cases ho : (PV.ownL (segm cs o v.cells.length) || v.own) with
  | true =>
    rw [ho, if_pos rfl] at hsl'
    refine ⟨_, RS.renh (st' := st') (us' := us') (X' := X0) R (Ren.seg_ok (a := .x 0) (o := 0) (n := v.cells.length) (b := hd) (o' := o) (fun h => hx 0 h.symm)) (fun l a q i r e0 e => ?_) ht hk hlh (fun hd' p => ?_) (fun t => ?_) (fun i => shp_undef _) (by rw [hsl', clr_len, hus]; exact R.lsl) l2 l3 c1 c2 l4 l5⟩
    · unfold Ren.seg at e
      split at e
      · cases e; rw [l4]; exact R.bdh l i _ e0
      · split at e
        · cases e; exact hhd i rfl
        · split at e
          · cases e
          · cases e; rw [l4]; exact R.bdh l i _ e0
    · by_cases hh : hd' = hd
      · subst hh
        rw [hfam' p]
        rcases hc1 p with ⟨c, rfl⟩ | h
        · rw [hcell c]
          split
          · rename_i hcc
            refine .inl ⟨.x 0, [c - o], (k4 _).symm, fun _ r => ?_, fun hb pb tp e' => absurd e' (lay_q (cellL_get hc _).1 _ _ _)⟩
            simp only [List.cons_append, List.nil_append]
            rw [Ren.seg_mv (by omega) (by omega)]
            rw [show c - o - 0 + o = c by omega]
          · rename_i hcc
            refine .inl ⟨hd', [c], by rw [hfam]; rfl, fun _ r => ?_, fun hb pb tp e' => absurd e' (lay_q (hlay c) _ _ _)⟩
            exact Ren.seg_rest_b (fun h => hx 0 h.symm) (by omega) r
        · exact .inr (undef_rc h)
      · cases hd' with
        | x i => exact .inr (undef_rc (fam_x0 i p))
        | s t =>
          simp only [fam, hsl', clr_get, hus]
          split
          · exact .inr (undef_rc' (fcell_undef p))
          · rename_i hb
            have hb : (pget st.sl t).bor hd = false := by simpa using hb
            exact .inl (moved_still rfl (fun _ => Ren.seg_still (by simp) (fun h => hsl t h.symm)) fun hb' pb tp e' hx' => Ren.seg_still (hx' 0) (bor_ne (v := pget st.sl t) hb (p := p) e'))
        | b i =>
          refine (hoth (.b i) p hh (by simp) (by simp)).elim (fun hot => ?_) (fun hot => .inr (undef_rc hot))
          rw [hot]
          exact .inl (moved_still rfl (fun _ => Ren.seg_still (by simp) hh) fun hb pb tp e' => absurd e' (R.nobor_b i p hb pb tp))
        | h i =>
          refine (hoth (.h i) p hh (by simp) (by simp)).elim (fun hot => ?_) (fun hot => .inr (undef_rc hot))
          rw [hot]
          exact .inl (moved_still rfl (fun _ => Ren.seg_still (by simp) hh) fun hb pb tp e' => absurd e' (R.nobor_h i p hb pb tp))
    · rw [hsl', clr_get, hus]; split
      · exact shp_undef _
      · exact R.sh t
  | false =>
    rw [ho] at hsl'
    simp only [Bool.false_eq_true, if_false] at hsl'
    simp only [Bool.or_eq_false_iff] at ho
    refine ⟨_, RS.renh (st' := st') (us' := us') (X' := X0) R (Ren.drop_ok (.x 0)) (fun l a q i r e0 e => ?_) ht hk hlh (fun hd' p => ?_) (fun t => ?_) (fun i => shp_undef _) (by rw [hsl', hus]; exact R.lsl) l2 l3 c1 c2 l4 l5⟩
    · have := drop_hh a q i r e
      subst this
      rw [l4]; exact R.bdh l i q e0
    · have t : Tr us.hp ω us'.hp (fun l => Ag.ren (Ren.drop (.x 0)) (ω l)) (Ren.drop (.x 0)) (fun _ => False) :=
        ⟨fun l e => ⟨by simp [e, Ag.ren], ht l (fun i => by simp [e])⟩, fun l hd p e _ => ⟨by simp [e, Ag.ren], ht l (fun i => by simp [e])⟩, fun l i e => by simp [e, Ag.ren]⟩
      by_cases hh : hd' = hd
      · subst hh
        rw [hfam' p]
        rcases hc1 p with ⟨c, rfl⟩ | h
        · rw [hcell c]
          split
          · rename_i hcc
            have hlv := (cellL_get hc (c - o)).1
            have hov : (pget v.cells (c - o)).qo = false := by
              have hnt : ∀ vs, v ≠ .tup vs := (cells_len (R.shx 0) hc).2.1
              have := own_not ho.2 [c - o]
              rw [fcell_cells hnt] at this; exact this
            exact .inr ⟨fun _ _ _ e' => lay_q hlv _ _ _ e', (k3 _).tr t (fun e' => by rw [hov] at e'; cases e') (fun hb pb tp e' => absurd e' (lay_q hlv _ _ _))⟩
          · rename_i hcc
            exact .inl ⟨hd', [c], by rw [hfam]; rfl, fun _ r => Ren.drop_still (hx 0) _, fun hb pb tp e' => absurd e' (lay_q (hlay c) _ _ _)⟩
        · exact .inr (undef_rc h)
      · cases hd' with
        | x i => exact .inr (undef_rc (fam_x0 i p))
        | s t' =>
          simp only [fam, hsl', hus]
          exact .inl (moved_still rfl (fun _ => Ren.drop_still (by simp)) fun hb' pb tp e' hx' => Ren.drop_still (hx' 0))
        | b i =>
          refine (hoth (.b i) p hh (by simp) (by simp)).elim (fun hot => ?_) (fun hot => .inr (undef_rc hot))
          rw [hot]
          exact .inl (moved_still rfl (fun _ => Ren.drop_still (by simp)) fun hb pb tp e' => absurd e' (R.nobor_b i p hb pb tp))
        | h i =>
          refine (hoth (.h i) p hh (by simp) (by simp)).elim (fun hot => ?_) (fun hot => .inr (undef_rc hot))
          rw [hot]
          exact .inl (moved_still rfl (fun _ => Ren.drop_still (by simp)) fun hb pb tp e' => absurd e' (R.nobor_h i p hb pb tp))
    · rw [hsl', hus]; exact R.sh t
theorem splice_lay {cs vs : List PV} {o : Nat} (h1 : ∀ c, (pget cs c).lay = true) (h2 : ∀ c, (pget vs c).lay = true) (hle : o + vs.length ≤ cs.length) (c : Nat) : (pget (psplice cs o vs) c).lay = true := by
  rw [psplice_get _ _ _ _ hle]; split
  · exact h2 _
  · exact h1 _
theorem mvOut_bx (x : Opnd) (st : PS) : (Ag.mvOut x st).2.bx = st.bx ∧ (Ag.mvOut x st).2.hp = st.hp ∧ (Ag.mvOut x st).2.sl.length = st.sl.length := by
  cases x with
  | c v => exact ⟨rfl, rfl, rfl⟩
  | t n =>
    simp only [Ag.mvOut, mvS]
    split
    · split
      · exact ⟨rfl, rfl, rfl⟩
      · exact ⟨rfl, rfl, by simp [clr_len, pput_len]⟩
    · exact ⟨rfl, rfl, rfl⟩
theorem out_undef {o : AOp} {bx' : List (List V)} {hp' : Heap} (hst : stepV o us = some (.undef, bx', hp')) {ω' : Nat → W} (h : RS h0 ω0 ω' ρ st1 ⟨o.clears us.sl, bx', hp'⟩ X0) : Out2 o us h0 ω0 (.fl .undef) st1 := by
  refine ⟨.undef, bx', hp', ω', ρ, hst, ?_⟩
  have := h.hand (v := .fl .undef) (u := .undef) (hd := .x 0) (shp_undef _) (fun p => by rw [fcell_undef]; exact .undef _ _) (fun p => by rw [fcell_undef]; rfl) (fun p i pb tp => by rw [fcell_undef]; simp [PV.q])
  exact this
theorem o_storeB (R : RS h0 ω0 ω ρ st us X0) {i n : Nat} {a x : Opnd} {v : PV} (e : p_storeB i n a x st = some (v, st1)) : Out2 (.storeB i n a x) us h0 ω0 v st1 := by
  unfold p_storeB at e
  obtain ⟨ω1, R1⟩ := R.mv0 x
  obtain ⟨hbx, hhp, hsl⟩ := mvOut_bx x st
  generalize Ag.mvOut x st = mo at e R1 hbx hhp hsl
  obtain ⟨w, s⟩ := mo
  simp only at e R1 hbx hhp hsl
  split at e
  · rename_i j o hx
    have hev := R.ev_box hx
    split at e
    · rename_i hcnd
      obtain ⟨rfl, c1, c2, c3, c4⟩ := hcnd
      cases e
      obtain ⟨k1, k2, k3, k4⟩ := R1.hand_cells (i := 0) (v := w) (u := x.ev us.sl) rfl c4
      have hB : ∀ k, pgetB (pputB s.bx i (psplice (pgetB s.bx i) o w.cells)) k = if k = i then psplice (pgetB s.bx i) o w.cells else pgetB s.bx k := by
        intro k; rw [pgetB_put]; simp [c1]
      have hV : ∀ k, getB (putB us.bx i (splice (getB us.bx i) o (x.ev us.sl).cells)) k = if k = i then splice (getB us.bx i) o (x.ev us.sl).cells else getB us.bx k := by
        intro k; rw [getB_put, ← R1.lbx]; simp [c1]
      subst c2
      have hst : stepV (.storeB i w.cells.length a x) us = some (.undef, putB us.bx i (splice (getB us.bx i) o (x.ev us.sl).cells), us.hp) := by
        simp only [stepV, hev]
        rw [if_pos ⟨trivial, by rw [← R1.lbx]; exact c1, k1, by rw [← R1.lb i]; exact c3, k2⟩]
      obtain ⟨ω', h⟩ := R1.storemv (st' := { s with sl := if PV.ownL (segm (pgetB s.bx i) o w.cells.length) || w.own then clr (.b i) s.sl else s.sl, bx := pputB s.bx i (psplice (pgetB s.bx i) o w.cells) })
        (us' := { us with bx := putB us.bx i (splice (getB us.bx i) o (x.ev us.sl).cells) }) (hd := .b i) (cs := pgetB s.bx i) (ws := getB us.bx i) (o := o) (by simp) (by simp) (by simp) c4 (fun p => rfl) (fun p => by simp only [fam, hB, hV, if_pos])
        (fun hd' p h1 h2 h3 => by
          cases hd' with
          | b k => left; simp only [fam, hB, hV]; rw [if_neg (fun h => h1 (by rw [h])), if_neg (fun h => h1 (by rw [h]))]
          | s t => exact absurd rfl (h2 t)
          | x k => exact absurd rfl (h3 k)
          | h k => exact .inl rfl) rfl rfl (R1.lb i).symm c3 (R1.cb i) (fun _ _ => rfl) (fun l i e => R1.core.kind l (.inr ⟨i, e⟩)) rfl (by simp only [pputB_len, putB_len]; exact R1.lbx) (fun k => by
            simp only [hB, hV]; split
            · rw [psplice_len, splice_len]; exact R1.lb i
            · exact R1.lb k) (fun k c => by
            simp only [hB]; split
            · exact splice_lay (R1.cb i) (fun c => (cellL_get c4 c).1) c3 c
            · exact R1.cb k c) R1.ch rfl (fun k hk => (R1.hp k hk).2)
      exact out_undef hst h
    · cases e
  · cases e
end
theorem ofV_rc {c : V} (hc : c.flat = true) (h : Heap) (ω : Nat → W) (m : Md) : RC h ω m (ofV c) c ∧ (ofV c).cell = true ∧ (∀ hb pb tp, (ofV c).q ≠ some (.bor hb pb tp)) := by
  cases c <;> first | (simp [V.flat] at hc; done) | exact ⟨.v _ _ rfl, rfl, fun _ _ _ h => by simp [ofV, PV.q] at h⟩ | exact ⟨.nil _ _, rfl, fun _ _ _ h => by simp [ofV, PV.q] at h⟩
theorem ofVs_cell : ∀ {zs : List V}, zs.all V.flat = true → cellL (zs.map ofV) = true
  | [], _ => rfl
  | z :: r, h => by
    simp only [List.all_cons, Bool.and_eq_true] at h
    simp only [List.map_cons, cellL, Bool.and_eq_true]
    exact ⟨(ofV_rc h.1 [] (fun _ => .none) .fz).2.1, ofVs_cell h.2⟩
theorem ofVs_get {zs : List V} (c : Nat) (hc : c < zs.length) : pget (zs.map ofV) c = ofV (zs[c]'hc) ∧ get zs c = zs[c]'hc := by
  rw [pget_eq, get_eq, List.getElem?_map, List.getElem?_eq_getElem hc]; exact ⟨rfl, rfl⟩
theorem ofVs_rc {zs : List V} (hz : zs.all V.flat = true) (h : Heap) (ω : Nat → W) (m : Md) (c : Nat) : RC h ω m (pget (zs.map ofV) c) (get zs c) ∧ nobx (pget (zs.map ofV) c) := by
  rcases Nat.lt_or_ge c zs.length with hc | hc
  · obtain ⟨e1, e2⟩ := ofVs_get c hc
    rw [e1, e2]
    obtain ⟨h1, _, h3⟩ := ofV_rc (List.all_eq_true.1 hz _ (List.getElem_mem hc)) h ω m
    exact ⟨h1, fun i pb tp => h3 _ pb tp⟩
  · rw [pget_ge _ _ (by simpa using hc)]
    exact ⟨.undef _ _, fun i pb tp => by simp [PV.q]⟩
section
variable {h0 : Heap} {ω0 ω : Nat → W} {ρ : Nat → Nat} {st st' st1 : PS} {us us' : St} {X X' : Hands}
theorem RS.handx (R : RS h0 ω0 ω ρ st us X0) {v : PV} {u : V} (hs : Shp v u) (hr : ∀ p, RC us.hp ω (.at (.x 0) p) (v.fcell p) (u.fcell p)) (hx : ∀ p, nobx (v.fcell p)) : RS h0 ω0 ω ρ st us (X1 v u) := by
  have := RS.ren (st' := st) (us' := us) (X' := X1 v u) R Ren.id_ok (fun hd p i q e => by simp [Ren.id] at e; exact e.1) (fun hd' p => ?_) rfl R.sh (fun i => ?_) R.lsl R.lbx R.lb R.cb R.ch rfl (fun _ => rfl)
  · rwa [ren_id] at this
  · cases hd' with
    | x i =>
      refine .inr ?_
      rw [ren_id]
      by_cases hi : i = 0
      · subst hi
        exact ⟨hx p, hr p⟩
      · exact undef_rc (fam_x1 i hi p)
    | s t => exact .inl (moved_id rfl)
    | b t => exact .inl (moved_id rfl)
    | h t => exact .inl (moved_id rfl)
  · by_cases hi : i = 0
    · subst hi; exact hs
    · rw [X1_1 v u i hi]; exact shp_undef _
theorem RS.handz (R : RS h0 ω0 ω ρ st us X0) {zs : List V} (hz : zs.all V.flat = true) : RS h0 ω0 ω ρ st us (X1 (.agg (zs.map ofV)) (.agg zs)) := by
  refine R.handx ⟨zs, rfl, by simp⟩ (fun p => ?_) (fun p => ?_)
  · match p with
    | [c] => exact (ofVs_rc hz _ _ _ c).1
    | [] => exact .undef _ _
    | _ :: _ :: _ => exact .undef _ _
  · match p with
    | [c] => exact (ofVs_rc hz us.hp ω .fz c).2
    | [] => exact fun i pb tp => by simp [PV.fcell, PV.q]
    | _ :: _ :: _ => exact fun i pb tp => by simp [PV.fcell, PV.q]
theorem RS.newbox {v : PV} {u : V} (R : RS h0 ω0 ω ρ st us (X1 v u)) (i : Nat) (hi : i < st.bx.length) (hc : cellL v.cells = true) :
    ∃ ω', RS h0 ω0 ω' ρ { st with sl := clr (.b i) (pclearBox i st.sl), bx := pputB st.bx i v.cells } { us with sl := clearBox i us.sl, bx := putB us.bx i u.cells } (X1 (.box i 0) (.box i 0)) := by
  obtain ⟨k1, k2, k3, k4⟩ := R.hand_cells (i := 0) (v := v) (u := u) rfl hc
  have hB : ∀ k, pgetB (pputB st.bx i v.cells) k = if k = i then v.cells else pgetB st.bx k := by
    intro k; rw [pgetB_put]; simp [hi]
  have hV : ∀ k, getB (putB us.bx i u.cells) k = if k = i then u.cells else getB us.bx k := by
    intro k; rw [getB_put, ← R.lbx]; simp [hi]
  have hslot : ∀ t, pget (clr (.b i) (pclearBox i st.sl)) t = .fl .undef ∨ (pget (clr (.b i) (pclearBox i st.sl)) t = pget st.sl t ∧ get (clearBox i us.sl) t = get us.sl t ∧ (pget st.sl t).bor (.b i) = false) := by
    intro t
    rw [clr_get, pclearBox_get, get_clearBox]
    by_cases hu : pget st.sl t = .fl .undef
    · left; rw [hu]; rfl
    · cases hbx : (pget st.sl t).isBox i with
      | true => left; rfl
      | false =>
        simp only [Bool.false_eq_true, if_false]
        cases hbb : (pget st.sl t).bor (.b i) with
        | true => left; rfl
        | false =>
          right
          refine ⟨rfl, ?_, rfl⟩
          have hne : (get us.sl t).isBox i = false := by
            have hr := fun p => R.core.rc (.s t) p
            simp only [fam] at hr
            have hs := R.sh t
            generalize pget st.sl t = w at hu hbx hr hs
            generalize get us.sl t = x at hr hs
            cases w with
            | agg cs => obtain ⟨ws, rfl, _⟩ := hs; rfl
            | tup cs => obtain ⟨ws, rfl, _⟩ := hs; rfl
            | fl a =>
              have hs' : (∀ us', x ≠ .agg us') ∧ ∀ us', x ≠ .tup us' := by
                cases a <;> first | exact hs | exact absurd rfl hu
              have r := hr [0]
              rw [fcell_scalar (fun _ h => (by cases h)) (fun _ h => (by cases h)), vfcell_scalar hs'.1 hs'.2] at r
              cases r with
              | undef => exact absurd rfl hu
              | v _ _ hx => cases x <;> first | rfl | simp [V.flat] at hx
            | box j o =>
              have r := hr [0]
              rw [fcell_scalar (fun _ h => (by cases h)) (fun _ h => (by cases h)), vfcell_scalar hs.1 hs.2] at r
              cases r; exact hbx
            | _ =>
              have r := hr [0]
              rw [fcell_scalar (fun _ h => (by cases h)) (fun _ h => (by cases h)), vfcell_scalar hs.1 hs.2] at r
              cases r <;> rfl
          rw [hne]; rfl
  refine ⟨_, RS.ren (X' := X1 (.box i 0) (.box i 0)) R (Ren.mv_ok (.x 0) (.b i)) (mv_hh (by simp)) (fun hd' p => ?_) rfl (fun t => ?_) (fun j => ?_) (by simp [clr_len, pclearBox_len, clearBox_len, R.lsl]) (by simp [pputB_len, putB_len, R.lbx]) (fun k => ?_) (fun k c => ?_) R.ch rfl (fun _ => rfl)⟩
  · cases hd' with
    | x j =>
      refine .inr ?_
      by_cases hj : j = 0
      · subst hj
        have hq : ∀ p, ((PV.box i 0).fcell p = .box i 0 ∧ (V.box i 0).fcell p = .box i 0) ∨ (PV.box i 0).fcell p = .fl .undef := by
          intro p
          match p with
          | [0] => exact .inl ⟨rfl, rfl⟩
          | [] => exact .inr rfl
          | (_ + 1) :: _ => exact .inr rfl
          | 0 :: _ :: _ => exact .inr rfl
        show nobx ((PV.box i 0).fcell p) ∧ RC _ _ _ ((PV.box i 0).fcell p) ((V.box i 0).fcell p)
        rcases hq p with ⟨e1, e2⟩ | e
        · rw [e1, e2]; exact ⟨fun i pb tp => by simp [PV.q], .box _ _ _⟩
        · rw [e]; exact ⟨fun i pb tp => by simp [PV.q], .undef _ _⟩
      · exact undef_rc (fam_x1 j hj p)
    | s t =>
      simp only [fam]
      rcases hslot t with h | ⟨h1, h2, h3⟩
      · refine .inr ?_; rw [h]; exact undef_rc' (fcell_undef p)
      · rw [h1, h2]
        exact .inl (moved_still rfl (fun _ => Ren.mv_still (by simp) (by simp)) fun hb pb tp e hx => Ren.mv_still (hx 0) (bor_ne (v := pget st.sl t) h3 (p := p) e))
    | b k =>
      simp only [fam, hB, hV]
      by_cases hk : k = i
      · subst hk
        simp only [if_pos]
        match p with
        | [] => exact .inr (undef_rc rfl)
        | _ :: _ :: _ => exact .inr (undef_rc rfl)
        | [c] => exact .inl ⟨.x 0, [c], (k4 c).symm, fun _ r => by simp [Ren.mv], fun hb pb tp e' => absurd e' (lay_q (cellL_get hc c).1 _ _ _)⟩
      · simp only [if_neg hk]
        exact .inl (moved_still rfl (fun _ => Ren.mv_still (by simp) (by simpa using hk)) fun hb pb tp e' => absurd e' (R.nobor_b k p hb pb tp))
    | h k => exact .inl (moved_still rfl (fun _ => Ren.mv_still (by simp) (by simp)) fun hb pb tp e' => absurd e' (R.nobor_h k p hb pb tp))
  · simp only
    rcases hslot t with h | ⟨h1, h2, h3⟩
    · rw [h]; exact shp_undef _
    · rw [h1, h2]; exact R.sh t
  · by_cases hj : j = 0
    · subst hj; exact ⟨fun _ h => (by cases h), fun _ h => (by cases h)⟩
    · rw [X1_1 _ _ j hj]; exact shp_undef _
  · simp only [hB, hV]; split
    · exact k1.symm
    · exact R.lb k
  · simp only [hB]; split
    · exact (cellL_get hc c).1
    · exact R.cb k c
theorem o_boxB (R : RS h0 ω0 ω ρ st us X0) {i n : Nat} {x : Opnd} {v : PV}
    (e : (match Ag.mvOut x st with | (v, st) => if i < st.bx.length ∧ v.cells.length = n ∧ cellL v.cells = true then some (PV.box i 0, { st with sl := clr (.b i) (pclearBox i st.sl), bx := pputB st.bx i v.cells }) else none) = some (v, st1)) : Out2 (.boxB i n x) us h0 ω0 v st1 := by
  obtain ⟨ω1, R1⟩ := R.mv0 x
  generalize Ag.mvOut x st = mo at e R1
  obtain ⟨w, s⟩ := mo
  simp only at e R1
  split at e
  · rename_i hc
    obtain ⟨c1, c2, c3⟩ := hc
    cases e
    obtain ⟨k1, k2, _, _⟩ := R1.hand_cells (i := 0) (v := w) (u := x.ev us.sl) rfl c3
    obtain ⟨ω', h⟩ := R1.newbox i c1 c3
    exact ⟨_, _, _, ω', ρ, by simp only [stepV]; rw [if_pos ⟨by rw [← R1.lbx]; exact c1, by rw [k1, c2], k2⟩], h⟩
  · cases e
theorem flat_cells {zs : List V} (h : zs.all V.flat = true) : zs.all V.cell = true := by
  rw [List.all_eq_true] at h ⊢
  intro x hx
  have := h x hx
  cases x <;> first | rfl | simp [V.flat] at this
theorem o_allocB (R : RS h0 ω0 ω ρ st us X0) {i : Nat} {zs : List V} (hi : i < st.bx.length) (hz : zs.all V.flat = true) : Out2 (.allocB i zs) us h0 ω0 (.box i 0) { st with sl := clr (.b i) (pclearBox i st.sl), bx := pputB st.bx i (zs.map ofV) } := by
  obtain ⟨ω', h⟩ := (R.handz hz).newbox i hi (ofVs_cell hz)
  exact ⟨_, _, _, ω', ρ, by simp only [stepV]; rw [if_pos ⟨by rw [← R.lbx]; exact hi, flat_cells hz⟩]; rfl, h⟩
end
theorem RC.und {h : Heap} {ω : Nat → W} {hd hd' : Hd} {p p' : List Nat} {q : Ql} {k : Nat} {v : PV} {u : V} (hq : q.isOwn = false) (r : RC h ω (Md.sub (.at hd p) q k) v u) : RC h ω (.at hd' p') (und1 q v) u := by
  cases q with
  | own => cases hq
  | ownw w => cases hq
  | frz =>
    cases r with
    | undef => exact .undef _ _
    | v _ _ hx => exact .v _ _ hx
    | nil => exact .nil _ _
    | sl _ q es l o n b h1 hk hc hne hn hw hle hr => exact .sl _ _ _ _ _ _ b h1 hk hc (fun _ e => by simp at e) hn hw hle hr
    | ep => exact .undef _ _
    | box => exact .undef _ _
  | bor a c d =>
    cases r with
    | undef => exact .undef _ _
    | v _ _ hx => exact .v _ _ hx
    | nil _ q => cases q <;> first | exact .nil _ _ | exact .undef _ _
    | sl _ q es l o n b h1 hk hc hne hn hw hle hr =>
      cases q with
      | own => exact .sl _ _ _ _ _ _ b h1 hk ⟨hc, fun e => by cases e⟩ (fun _ e => by simp at e) hn hw hle hr
      | ownw w => exact .sl _ _ _ _ _ _ b h1 hk ⟨hc, fun e => by cases e⟩ (fun _ e => by simp at e) hn hw hle hr
      | frz => exact .sl _ _ _ _ _ _ b h1 hk hc (fun _ e => by simp at e) hn hw hle hr
      | bor => exact .undef _ _
      | pre => exact .undef _ _
    | ep _ q => cases q <;> exact .undef _ _
    | box => exact .undef _ _
  | pre a c =>
    cases r with
    | undef => exact .undef _ _
    | v _ _ hx => exact .v _ _ hx
    | nil _ q => cases q <;> first | exact .nil _ _ | exact .undef _ _
    | sl _ q es l o n b h1 hk hc hne hn hw hle hr =>
      cases q with
      | own => exact .sl _ _ _ _ _ _ b h1 hk ⟨hc, fun e => by cases e⟩ (fun _ e => by simp at e) hn hw hle hr
      | ownw w => exact .sl _ _ _ _ _ _ b h1 hk ⟨hc, fun e => by cases e⟩ (fun _ e => by simp at e) hn hw hle hr
      | frz => exact .sl _ _ _ _ _ _ b h1 hk hc (fun _ e => by simp at e) hn hw hle hr
      | bor => exact .undef _ _
      | pre => exact .undef _ _
    | ep _ q => cases q <;> exact .undef _ _
    | box => exact .undef _ _
theorem und_q {q : Ql} {v : PV} (hx : ∀ i, q.hd ≠ some (.x i)) : (und1 q v).sc ∧ (und1 q v).qo = false ∧ nobx (und1 q v) := by
  have z : ∀ (hd : Hd) (es : List (List PV)), q.hd = some hd → (PV.sl (.bor hd [] false) es).sc ∧ (PV.sl (.bor hd [] false) es).qo = false ∧ nobx (PV.sl (.bor hd [] false) es) := by
    intro hd es e
    refine ⟨⟨fun _ h => (by cases h), fun _ h => (by cases h)⟩, rfl, fun i pb tp h => ?_⟩
    simp [PV.q] at h
    exact hx i (by rw [e, h.1])
  have y : ∀ es, (PV.sl .frz es).sc ∧ (PV.sl .frz es).qo = false ∧ nobx (PV.sl .frz es) := fun es => ⟨⟨fun _ h => (by cases h), fun _ h => (by cases h)⟩, rfl, fun i pb tp => by simp [PV.q]⟩
  have x : ∀ a, (PV.fl a).sc ∧ (PV.fl a).qo = false ∧ nobx (PV.fl a) := fun a => ⟨⟨fun _ h => (by cases h), fun _ h => (by cases h)⟩, rfl, fun i pb tp => by simp [PV.q]⟩
  unfold und1
  split <;> first | exact x _ | exact y _ | exact z _ _ rfl
theorem undL_get (q : Ql) (cs : List PV) (k : Nat) : pget (undL q cs) k = und1 q (pget cs k) ∨ (cs.length ≤ k ∧ pget (undL q cs) k = .fl .undef) := by
  induction cs generalizing k with
  | nil => exact .inr ⟨by simp, rfl⟩
  | cons x r ih => cases k with
    | zero => exact .inl rfl
    | succ k =>
      rcases ih k with h | ⟨h1, h2⟩
      · exact .inl h
      · exact .inr ⟨by simp; omega, h2⟩
theorem undL_len (q : Ql) (cs : List PV) : (undL q cs).length = cs.length := by
  induction cs with
  | nil => rfl
  | cons x r ih => simp [undL, ih]
section
variable {h0 : Heap} {ω0 ω : Nat → W} {ρ : Nat → Nat} {st st' st1 : PS} {us us' : St} {X X' : Hands}
theorem RS.blk (R : RS h0 ω0 ω ρ st us X) {i : Nat} (hi : i < st.hp.length) : ∃ b, us.hp[ρ i]? = some b ∧ b.k = .own ∧ blkcs us.hp (ρ i) = b.cs := by
  obtain ⟨b, h1, h2⟩ := R.core.kind (ρ i) (.inr ⟨i, (R.hp i hi).1⟩)
  exact ⟨b, h1, h2, by simp [blkcs, h1]⟩
theorem o_loadH (R : RS h0 ω0 ω ρ st us X0) {m : Bool} {n : Option Nat} {a : Opnd} {v : PV} (e : p_loadH m n (a.pev st.sl) st = some (v, st1)) : Out2 (.loadH n a) us h0 ω0 v st1 := by
  unfold p_loadH at e
  split at e
  · rename_i i o hx
    obtain ⟨hev, _⟩ := R.ev_ptr hx
    split at e
    · rename_i hc
      obtain ⟨hi, hle⟩ := hc
      obtain ⟨b, hb1, hb2, hb3⟩ := R.blk hi
      have hlen : (blkcs us.hp (ρ i)).length = (pgetB st.hp i).length := (R.hp i hi).2
      have hrd : rd us.hp (ρ i) o (n.getD 1) = some (((blkcs us.hp (ρ i)).drop o).take (n.getD 1)) := by
        simp [rd, hb1, hb2, hb3]
        rw [← hb3, hlen]; exact hle
      split at e
      · simp only [Option.map_eq_some_iff] at e
        obtain ⟨v', e, he⟩ := e
        cases he
        have hB : ∀ k, pgetB (pputB st.hp i (psplice (pgetB st.hp i) o (outL (segm (pgetB st.hp i) o (n.getD 1))))) k = if k = i then psplice (pgetB st.hp i) o (outL (segm (pgetB st.hp i) o (n.getD 1))) else pgetB st.hp k := by
          intro k; rw [pgetB_put]; simp [hi]
        obtain ⟨u, ω', h1, h2⟩ := R.loadmv (fun p => fcell_undef p) (fun _ _ => rfl) (st' := { st with sl := clr (.h i) st.sl, hp := pputB st.hp i (psplice (pgetB st.hp i) o (outL (segm (pgetB st.hp i) o (n.getD 1)))) }) (hd := .h i) (cs := pgetB st.hp i) (ws := blkcs us.hp (ρ i)) (by simp) (by simp)
          (fun p => rfl) (fun p => by simp only [fam, hB, if_pos]) (fun hd' p h h' => by
            cases hd' with
            | h k => simp only [fam, hB]; rw [if_neg (fun h2 => h (by rw [h2]))]
            | s t => exact absurd rfl (h' t)
            | _ => rfl) rfl hlen hle (R.ch i) R.lbx R.lb R.cb (fun k c => by
              simp only [hB]; split
              · rw [psplice_get _ _ _ _ (by rw [outL_len, segm_len hle]; exact hle)]
                split
                · rw [outL_get]; split
                  · rfl
                  · rw [segm_get]; split
                    · exact R.ch i _
                    · rfl
                · exact R.ch i c
              · exact R.ch k c) (by simp [pputB_len]) (fun k => by
              simp only [hB]; split
              · rename_i hk; rw [hk, psplice_len]
              · rfl) e
        exact ⟨u, us.bx, us.hp, ω', ρ, by simp only [stepV, hev, hrd, Option.bind_some, h1], h2⟩
      · simp only [Option.map_eq_some_iff] at e
        obtain ⟨v', e, he⟩ := e
        cases he
        have hrc : ∀ c, RC us.hp ω (.at (.h i) [c]) (pget (pgetB st.hp i) c) (get (blkcs us.hp (ρ i)) c) := fun c => R.core.rc (.h i) [c]
        refine (fun ⟨u, e1, e2⟩ => ⟨u, us.bx, us.hp, ω, ρ, by simp only [stepV, hev, hrd, Option.bind_some, e1], e2⟩ : _ → _) (R.handL (hd := .h i) (ws := ((blkcs us.hp (ρ i)).drop o).take (n.getD 1)) e (by rw [brwL_len, segm_len hle]; simp; omega) (fun c => ?_) (fun c => ?_) (fun c => ?_) (fun c => ?_))
        · rw [brwL_get]; refine brw_sc ?_; rw [segm_get]; split
          · exact lay_sc (R.ch i _)
          · exact sc_undef
        · rw [brwL_get, segm_get, seg_get]; split
          · exact (hrc (o + c)).brw
          · exact .undef _ _
        · rw [brwL_get]; exact brw_q
        · rw [brwL_get, segm_get]; split
          · exact brw_nobx (by simp) (hp_q R i _)
          · exact fun i pb tp => by simp [brw1, PV.q]
    · cases e
  · rename_i q es j o hx
    split at e
    · rename_i hc
      obtain ⟨c1, c2, c3⟩ := hc
      simp only [Option.map_eq_some_iff] at e
      obtain ⟨v', e, he⟩ := e
      cases he
      obtain ⟨hd, _, r⟩ := R.ev_one hx (fun _ h => (by cases h)) (fun _ h => (by cases h)) (fun _ h => (by cases h))
      have hn := R.ev_nobx a [0]
      rw [hx] at hn
      have hqx : ∀ i, q.hd ≠ some (.x i) := by
        intro i h
        cases q with
        | bor a b t => simp [Ql.hd] at h; subst h; exact hn i b t rfl
        | pre a b => simp [Ql.hd] at h; subst h; exact hn i b true rfl
        | _ => simp [Ql.hd] at h
      generalize hu : a.ev us.sl = u at r
      cases r with
      | ep _ _ _ _ _ l o1 p b h1 hk hq hcc hw hle hr hp =>
        have hel := elt_len hw c1
        rw [hel] at c2
        have hjw : (j + 1) * b.w ≤ es.length * b.w := Nat.mul_le_mul_right _ c1
        rw [Nat.add_mul, Nat.one_mul] at hjw
        have hrd : rd us.hp l p (n.getD 1) = some ((b.cs.drop p).take (n.getD 1)) := by
          rw [rd, h1]; simp only; rw [if_pos ⟨hk, by omega⟩]
        have hseg : (segm (elt es j) o (n.getD 1)).length = n.getD 1 := segm_len (by rw [hel]; exact c2)
        have hcell : ∀ c, (c < n.getD 1 ∧ pget (undL q (segm (elt es j) o (n.getD 1))) c = und1 q (pget es.flatten (j * b.w + (o + c))) ∧ get ((b.cs.drop p).take (n.getD 1)) c = get b.cs (o1 + (j * b.w + (o + c))) ∧ j * b.w + (o + c) < es.length * b.w) ∨ pget (undL q (segm (elt es j) o (n.getD 1))) c = .fl .undef := by
          intro c
          by_cases hcn : c < n.getD 1
          · refine .inl ⟨hcn, ?_, ?_, by omega⟩
            · rcases undL_get q (segm (elt es j) o (n.getD 1)) c with h | ⟨h, _⟩
              · rw [h, segm_get, if_pos hcn, ← flat_get hw j (o + c) (by omega)]
              · rw [hseg] at h; omega
            · rw [seg_get, if_pos hcn, hp]; congr 1; omega
          · rcases undL_get q (segm (elt es j) o (n.getD 1)) c with h | ⟨_, h⟩
            · exact .inr (by rw [pget_ge _ _ (by rw [undL_len, hseg]; omega)])
            · exact .inr h
        refine (fun ⟨u, e1, e2⟩ => ⟨u, us.bx, us.hp, ω, ρ, by simp only [stepV, hu, hrd, Option.bind_some, e1], e2⟩ : _ → _) (R.handL (hd := .x 0) (ws := (b.cs.drop p).take (n.getD 1)) e (by rw [undL_len, hseg]; simp; omega) (fun c => ?_) (fun c => ?_) (fun c => ?_) (fun c => ?_))
        · rcases hcell c with ⟨_, h, _⟩ | h
          · rw [h]; exact (und_q hqx).1
          · rw [h]; exact sc_undef
        · rcases hcell c with ⟨_, h, h', h''⟩ | h
          · rw [h, h']; exact (hr _ h'').und hq
          · rw [h]; exact .undef _ _
        · rcases hcell c with ⟨_, h, _⟩ | h
          · rw [h]; exact (und_q hqx).2.1
          · rw [h]; rfl
        · rcases hcell c with ⟨_, h, _⟩ | h
          · rw [h]; exact (und_q hqx).2.2
          · rw [h]; exact fun i pb tp => by simp [PV.q]
    · cases e
  · cases e
theorem o_storeHp (R : RS h0 ω0 ω ρ st us X0) {n : Nat} {a x : Opnd} {v w : PV} {s : PS} {i o : Nat} (emo : Ag.mvOut x st = (w, s)) (hx : a.pev s.sl = .ptr i o)
    (e : (if i < s.hp.length ∧ w.cells.length = n ∧ o + n ≤ (pgetB s.hp i).length ∧ cellL w.cells = true then
        some (PV.fl V.undef, { s with sl := if PV.ownL (segm (pgetB s.hp i) o n) || w.own then clr (.h i) s.sl else s.sl, hp := pputB s.hp i (psplice (pgetB s.hp i) o w.cells) }) else none) = some (v, st1)) : Out2 (.storeH n a x) us h0 ω0 v st1 := by
  obtain ⟨ω1, R1⟩ := R.mv0 x
  rw [emo] at R1
  obtain ⟨hev, _⟩ := R1.ev_ptr hx
  split at e
  · rename_i hcnd
    obtain ⟨hi, c2, c3, c4⟩ := hcnd
    cases e
    subst c2
    obtain ⟨k1, k2, k3, k4⟩ := R1.hand_cells (i := 0) (v := w) (u := x.ev us.sl) rfl c4
    obtain ⟨b, hb1, hb2, hb3⟩ := R1.blk hi
    have hlen : (blkcs us.hp (ρ i)).length = (pgetB s.hp i).length := (R1.hp i hi).2
    have hle : o + (x.ev us.sl).cells.length ≤ b.cs.length := by
      have := hlen; rw [hb3] at this; rw [k1, this]; exact c3
    have hwr : wr us.hp (ρ i) o (x.ev us.sl).cells = some (us.hp.set (ρ i) { b with cs := splice b.cs o (x.ev us.sl).cells }) := by
      rw [wr, hb1]; simp only; rw [if_pos ⟨hb2, hle⟩]
    have hB : ∀ k, pgetB (pputB s.hp i (psplice (pgetB s.hp i) o w.cells)) k = if k = i then psplice (pgetB s.hp i) o w.cells else pgetB s.hp k := by
      intro k; rw [pgetB_put]; simp [hi]
    have hlt : ρ i < us.hp.length := get_len hb1
    have hset : ∀ l, (us.hp.set (ρ i) { b with cs := splice b.cs o (x.ev us.sl).cells })[l]? = if l = ρ i then some { b with cs := splice b.cs o (x.ev us.sl).cells } else us.hp[l]? := by
      intro l
      rw [List.getElem?_set]
      by_cases h : ρ i = l
      · subst h; simp [hlt]
      · rw [if_neg h, if_neg (fun h' => h h'.symm)]
    have hV : ∀ k, k < s.hp.length → blkcs (us.hp.set (ρ i) { b with cs := splice b.cs o (x.ev us.sl).cells }) (ρ k) = if k = i then splice (blkcs us.hp (ρ i)) o (x.ev us.sl).cells else blkcs us.hp (ρ k) := by
      intro k hk
      simp only [blkcs, hset]
      by_cases h : k = i
      · subst h; simp [hb1]
      · have : ρ k ≠ ρ i := by
          intro e
          have h1 := (R1.hp k hk).1
          rw [e, (R1.hp i hi).1] at h1
          cases h1; exact h rfl
        rw [if_neg this, if_neg h]
    obtain ⟨ω', h⟩ := R1.storemv (st' := { s with sl := if PV.ownL (segm (pgetB s.hp i) o w.cells.length) || w.own then clr (.h i) s.sl else s.sl, hp := pputB s.hp i (psplice (pgetB s.hp i) o w.cells) })
      (us' := { us with hp := us.hp.set (ρ i) { b with cs := splice b.cs o (x.ev us.sl).cells } }) (hd := .h i) (cs := pgetB s.hp i) (ws := blkcs us.hp (ρ i)) (o := o) (by simp) (by simp) (fun k hk => by cases hk; simp only [pputB_len]; exact hi) c4 (fun p => rfl)
      (fun p => by simp only [fam, hB, if_pos]; rw [hV i hi, if_pos rfl])
      (fun hd' p h1 h2 h3 => by
        cases hd' with
        | b k => exact .inl rfl
        | s t => exact absurd rfl (h2 t)
        | x k => exact absurd rfl (h3 k)
        | h k =>
          have hki : k ≠ i := fun h => h1 (by rw [h])
          simp only [fam, hB, if_neg hki]
          rcases Nat.lt_or_ge k s.hp.length with hk | hk
          · left; rw [hV k hk, if_neg hki]
          · right
            have hz : pgetB s.hp k = [] := by rw [pgetB_eq, List.getElem?_eq_none hk]; rfl
            rw [hz]; unfold cellAt; split <;> rfl) rfl rfl hlen c3 (R1.ch i) (fun l hl => by
        simp only [hset]
        rw [if_neg (fun h => hl i (by rw [h]; exact (R1.hp i hi).1))]) (fun l j e => by
        simp only [hset]
        split
        · exact ⟨_, rfl, hb2⟩
        · exact R1.core.kind l (.inr ⟨j, e⟩)) (by simp) R1.lbx R1.lb R1.cb (fun k c => by
        simp only [hB]; split
        · exact splice_lay (R1.ch i) (fun c => (cellL_get c4 c).1) c3 c
        · exact R1.ch k c) (by simp [pputB_len]) (fun k hk => by
        simp only [hB]; rw [hV k hk]
        split
        · rw [splice_len, psplice_len]; exact hlen
        · exact (R1.hp k hk).2)
    exact out_undef (o := .storeH w.cells.length a x) (by simp only [stepV, hev]; rw [if_pos ⟨k1, k2⟩, hwr]; rfl) h
  · cases e
end
section
variable {h0 : Heap} {ω0 ω : Nat → W} {ρ ρ' : Nat → Nat} {st st' st1 : PS} {us us' : St} {X X' : Hands}
def pushω (f : Ren) (n : Nat) (w0 : W) (T : Nat → Bool) (ω : Nat → W) : Nat → W := fun l => if l = n then w0 else if T l then .none else ren f (ω l)
def MovedT (f : Ren) (ω : Nat → W) (T : Nat → Bool) (A : Fam) (vu : PV × V) (hd' : Hd) (p' : List Nat) : Prop :=
  ∃ hd p, vu = A hd p ∧ (vu.1.qo = true → (∀ l r, ω l = .own hd (p ++ r) → T l = false) ∧ ∀ r, f hd (p ++ r) = .own hd' (p' ++ r)) ∧
    ∀ hb pb tp, vu.1.q = some (.bor hb pb tp) → (∀ i, hb ≠ .x i) → (∀ l q, ω l = .own hb q → T l = false) ∧ (tp = true → f.still hb) ∧ f.soft hb
theorem push_tr {h : Heap} {ω : Nat → W} {f : Ren} {w0 : W} {T : Nat → Bool} {h1 : Heap} {blk : Blk} (hl : h1.length = h.length) (he : ∀ l, T l = false → h1[l]? = h[l]?)
    (hT : ∀ l, T l = true → ∃ hd p, ω l = .own hd p) (hlt : ∀ l, ω l ≠ .none → l < h.length) : Tr h ω (h1 ++ [blk]) (pushω f h.length w0 T ω) f (fun l => T l = true) := by
  have old : ∀ l, ω l ≠ .none → T l = false → (h1 ++ [blk])[l]? = h[l]? ∧ pushω f h.length w0 T ω l = ren f (ω l) := by
    intro l hne ht
    have := hlt l hne
    refine ⟨by rw [List.getElem?_append_left (by omega), he l ht], ?_⟩
    unfold pushω
    rw [if_neg (by omega), if_neg (by simp [ht])]
  have nT : ∀ l, (∀ hd p, ω l ≠ .own hd p) → T l = false := by
    intro l hn
    cases ht : T l with
    | false => rfl
    | true => obtain ⟨hd, p, e⟩ := hT l ht; exact absurd e (hn hd p)
  refine ⟨fun l e => ?_, fun l hd p e ht => ?_, fun l i e => ?_⟩
  · obtain ⟨a, b⟩ := old l (by simp [e]) (nT l (by simp [e]))
    exact ⟨by rw [b, e]; rfl, a⟩
  · obtain ⟨a, b⟩ := old l (by simp [e]) (by simpa using ht)
    exact ⟨by rw [b, e]; rfl, a⟩
  · obtain ⟨a, b⟩ := old l (by simp [e]) (nT l (by simp [e]))
    rw [b, e]; rfl
theorem Core.notNone {h : Heap} {ω : Nat → W} {A : Fam} (c : Core h ω A) (l : Nat) (e : ω l ≠ .none) : l < h.length := by
  cases e1 : ω l with
  | none => exact absurd e1 e
  | frz => exact c.lt l e1
  | own a q => obtain ⟨b, hb, _⟩ := c.kind l (.inl ⟨a, q, e1⟩); exact get_len hb
  | ptr i => obtain ⟨b, hb, _⟩ := c.kind l (.inr ⟨i, e1⟩); exact get_len hb
theorem RS.push (R : RS h0 ω0 ω ρ st us X) {f : Ren} (hf : f.Ok) {w0 : W} {T : Nat → Bool} {h1 : Heap} {blk : Blk} (hbk : blk.k = .own) (hl : h1.length = us.hp.length) (he : ∀ l, T l = false → h1[l]? = us.hp[l]?) (hhp : us'.hp = h1 ++ [blk])
    (hT : ∀ l, T l = true → ∃ hd p, ω l = .own hd p) (hw0 : (∃ hd p, w0 = .own hd p) ∨ ∃ i, w0 = .ptr i) (hfresh : ∀ l, T l = false → Ag.ren f (ω l) ≠ w0)
    (hA : ∀ hd p, MovedT f ω T (fam ρ st us X) (fam ρ' st' us' X' hd p) hd p ∨ nobx (fam ρ' st' us' X' hd p).1 ∧ RC us'.hp (pushω f us.hp.length w0 T ω) (.at hd p) (fam ρ' st' us' X' hd p).1 (fam ρ' st' us' X' hd p).2)
    (hs : ∀ t, Shp (pget st'.sl t) (get us'.sl t)) (hx : ∀ i, Shp (X' i).1 (X' i).2) (l1 : st'.sl.length = us'.sl.length) (l2 : st'.bx.length = us'.bx.length)
    (l3 : ∀ i, (pgetB st'.bx i).length = (getB us'.bx i).length) (c1 : ∀ i c, (pget (pgetB st'.bx i) c).lay = true) (c2 : ∀ i c, (pget (pgetB st'.hp i) c).lay = true)
    (l4 : ∀ i, i < st'.hp.length → pushω f us.hp.length w0 T ω (ρ' i) = .ptr i ∧ (blkcs us'.hp (ρ' i)).length = (pgetB st'.hp i).length)
    (l5 : ∀ l i, pushω f us.hp.length w0 T ω l = .ptr i → i < st'.hp.length) (l6 : ∀ l i p, pushω f us.hp.length w0 T ω l = .own (.h i) p → i < st'.hp.length) :
    RS h0 ω0 (pushω f us.hp.length w0 T ω) ρ' st' us' X' := by
  have t := push_tr (h := us.hp) (ω := ω) (f := f) (w0 := w0) (T := T) (blk := blk) hl he hT R.core.notNone
  have val : ∀ l, (l = us.hp.length ∧ pushω f us.hp.length w0 T ω l = w0) ∨ (l ≠ us.hp.length ∧ T l = true ∧ pushω f us.hp.length w0 T ω l = .none) ∨ (l ≠ us.hp.length ∧ T l = false ∧ pushω f us.hp.length w0 T ω l = Ag.ren f (ω l)) := by
    intro l
    unfold pushω
    by_cases h : l = us.hp.length
    · exact .inl ⟨h, by rw [if_pos h]⟩
    · rw [if_neg h]
      cases ht : T l with
      | true => exact .inr (.inl ⟨h, rfl, rfl⟩)
      | false => exact .inr (.inr ⟨h, rfl, rfl⟩)
  have uni : ∀ l l', (∀ hd p, pushω f us.hp.length w0 T ω l = .own hd p → pushω f us.hp.length w0 T ω l' = .own hd p → l = l') ∧ ∀ i, pushω f us.hp.length w0 T ω l = .ptr i → pushω f us.hp.length w0 T ω l' = .ptr i → l = l' := by
    intro l l'
    rcases val l with ⟨a, b⟩ | ⟨a, b, c⟩ | ⟨a, b, c⟩
    · rcases val l' with ⟨a', b'⟩ | ⟨a', b', c'⟩ | ⟨a', b', c'⟩
      · exact ⟨fun _ _ _ _ => (by rw [a, a']), fun _ _ _ => (by rw [a, a'])⟩
      · exact ⟨fun _ _ _ e => (by rw [c'] at e; cases e), fun _ _ e => (by rw [c'] at e; cases e)⟩
      · refine ⟨fun hd p e e' => ?_, fun i e e' => ?_⟩
        · rw [b] at e; rw [c'] at e'; exact absurd (e'.trans e.symm) (hfresh l' b')
        · rw [b] at e; rw [c'] at e'; exact absurd (e'.trans e.symm) (hfresh l' b')
    · exact ⟨fun _ _ e => (by rw [c] at e; cases e), fun _ e => (by rw [c] at e; cases e)⟩
    · rcases val l' with ⟨a', b'⟩ | ⟨a', b', c'⟩ | ⟨a', b', c'⟩
      · refine ⟨fun hd p e e' => ?_, fun i e e' => ?_⟩
        · rw [c] at e; rw [b'] at e'; exact absurd (e.trans e'.symm) (hfresh l b)
        · rw [c] at e; rw [b'] at e'; exact absurd (e.trans e'.symm) (hfresh l b)
      · exact ⟨fun _ _ _ e => (by rw [c'] at e; cases e), fun _ _ e => (by rw [c'] at e; cases e)⟩
      · refine ⟨fun hd p e e' => ?_, fun i e e' => ?_⟩
        · rw [c] at e; rw [c'] at e'
          obtain ⟨x, q, e1, e2⟩ := ren_own e
          obtain ⟨x', q', e1', e2'⟩ := ren_own e'
          obtain ⟨rfl, rfl⟩ := hf.inj x q x' q' hd p e2 e2'
          exact R.core.inj l l' x q e1 e1'
        · rw [c] at e; rw [c'] at e'
          exact R.core.injp l l' i (ren_ptr hf e) (ren_ptr hf e')
  have hlen : us'.hp.length = us.hp.length + 1 := by rw [hhp]; simp [hl]
  have oldb : ∀ l, ω l ≠ .none → T l = false → us'.hp[l]? = us.hp[l]? := by
    intro l hne ht
    have := R.core.notNone l hne
    rw [hhp, List.getElem?_append_left (by omega), he l ht]
  refine ⟨⟨fun hd p => ?_, fun l l' hd p => (uni l l').1 hd p, fun l l' i => (uni l l').2 i, fun l e => ?_, fun l e => ?_⟩, hs, hx, l1, l2, l3, c1, c2, l4, l5, l6, ⟨?_, fun l hl' e => ?_, fun l hl' e => ?_, fun l i e => ?_⟩, fun hd p i pb tp => ?_⟩
  · rcases hA hd p with ⟨a, b, e, ho, hb⟩ | h
    · have hnx := R.nx a b
      rw [e] at ho hb ⊢
      rw [hhp]
      exact (R.core.rc a b).tr t (fun e' => ⟨fun l r h => by simp [(ho e').1 l r h], (ho e').2⟩) (fun hb' pb tp e' => by
        obtain ⟨x, y, z⟩ := hb hb' pb tp e' (fun i h => by subst h; exact hnx i pb tp e')
        exact ⟨fun l q h => by simp [x l q h], y, z⟩)
    · exact h.2
  · rcases val l with ⟨a, b⟩ | ⟨a, b, c⟩ | ⟨a, b, c⟩
    · exact ⟨blk, by rw [hhp, a, ← hl]; simp, hbk⟩
    · rw [c] at e; rcases e with ⟨_, _, e⟩ | ⟨_, e⟩ <;> cases e
    · rw [c] at e
      have : (∃ hd p, ω l = .own hd p) ∨ ∃ i, ω l = .ptr i := by
        rcases e with ⟨hd, p, e⟩ | ⟨i, e⟩
        · obtain ⟨x, q, e1, _⟩ := ren_own e; exact .inl ⟨x, q, e1⟩
        · exact .inr ⟨i, ren_ptr hf e⟩
      obtain ⟨b', h1', h2'⟩ := R.core.kind l this
      exact ⟨b', by rw [oldb l (by rcases this with ⟨_, _, h⟩ | ⟨_, h⟩ <;> simp [h]) b]; exact h1', h2'⟩
  · rw [hlen]
    rcases val l with ⟨a, b⟩ | ⟨a, b, c⟩ | ⟨a, b, c⟩
    · omega
    · rw [c] at e; cases e
    · have : ω l ≠ .none := by intro h; rw [c, h] at e; cases e
      have := R.core.notNone l this
      omega
  · rw [hlen]; have := R.fr.len; omega
  · obtain ⟨a, b⟩ := R.fr.old l hl' e
    have hlt : l < us.hp.length := by have := R.fr.len; omega
    have hnT : T l = false := by
      cases ht : T l with
      | false => rfl
      | true =>
        obtain ⟨hd, p, e'⟩ := hT l ht
        rw [e'] at b
        rcases e with e | e <;> rw [e] at b <;> cases b
    refine ⟨by rw [hhp, List.getElem?_append_left (by omega), he l hnT, a], ?_⟩
    unfold pushω
    rw [if_neg (by omega), if_neg (by simp [hnT]), b]
    rcases e with e | e <;> rw [e] <;> rfl
  · have hlt : l < us.hp.length := by have := R.fr.len; omega
    unfold pushω at e
    rw [if_neg (by omega)] at e
    split at e
    · cases e
    · exact (R.fr.ren f).new l hl' e
  · have e1 := R.fr.ptr l i e
    have hlt := R.core.notNone l (by rw [e1]; simp)
    have hnT : T l = false := by
      cases ht : T l with
      | false => rfl
      | true => obtain ⟨hd, p, e'⟩ := hT l ht; rw [e1] at e'; cases e'
    unfold pushω
    rw [if_neg (by omega), if_neg (by simp [hnT]), e1]; rfl
  · rcases hA hd p with ⟨a, b, e, _⟩ | h
    · rw [e]; exact R.nx a b i pb tp
    · exact h.1 i pb tp
def noT : Nat → Bool := fun _ => false
theorem movedT_still {f : Ren} {A : Fam} {vu : PV × V} {hd : Hd} {p : List Nat} {T : Nat → Bool} (e : vu = A hd p) (hT : ∀ l q, ω l = .own hd q → T l = false) (h : vu.1.qo = true → f.still hd)
    (hb : ∀ hb pb tp, vu.1.q = some (.bor hb pb tp) → (∀ i, hb ≠ .x i) → (∀ l q, ω l = .own hb q → T l = false) ∧ f.still hb) : MovedT f ω T A vu hd p :=
  ⟨hd, p, e, fun e => ⟨fun l r => hT l _, fun _ => h e _⟩, fun hb' pb tp e h' => ⟨(hb hb' pb tp e h').1, fun _ => (hb hb' pb tp e h').2, (hb hb' pb tp e h').2.soft⟩⟩
theorem RS.newptr {v : PV} {u : V} (R : RS h0 ω0 ω ρ st us (X1 v u)) (hc : cellL v.cells = true) :
    ∃ ω' ρ', RS h0 ω0 ω' ρ' { st with sl := clr (.h st.hp.length) st.sl, hp := st.hp ++ [v.cells] } { us with hp := us.hp ++ [⟨.own, 1, u.cells⟩] } (X1 (.ptr st.hp.length 0) (.ptr us.hp.length 0)) := by
  obtain ⟨k1, k2, k3, k4⟩ := R.hand_cells (i := 0) (v := v) (u := u) rfl hc
  have hB : ∀ k, pgetB (st.hp ++ [v.cells]) k = if k = st.hp.length then v.cells else pgetB st.hp k := by
    intro k
    rw [pgetB_eq, pgetB_eq]
    by_cases h : k = st.hp.length
    · subst h; simp
    · rw [if_neg h]
      rcases Nat.lt_or_ge k st.hp.length with h1 | h1
      · rw [List.getElem?_append_left h1]
      · rw [List.getElem?_eq_none (by simp; omega), List.getElem?_eq_none h1]
  have hρ : ∀ k, k < st.hp.length → ρ k < us.hp.length := fun k hk => by obtain ⟨b, h, _⟩ := R.blk hk; exact get_len h
  have hV : ∀ k, k < st.hp.length → blkcs (us.hp ++ [(⟨.own, 1, u.cells⟩ : Blk)]) (ρ k) = blkcs us.hp (ρ k) := fun k hk => by simp only [blkcs]; rw [List.getElem?_append_left (hρ k hk)]
  have hN : blkcs (us.hp ++ [(⟨.own, 1, u.cells⟩ : Blk)]) us.hp.length = u.cells := by simp [blkcs]
  have hfresh : ∀ l, noT l = false → Ag.ren (Ren.mv (.x 0) (.h st.hp.length)) (ω l) ≠ .ptr st.hp.length := fun l _ e => by
    have := R.bdp l _ (ren_ptr (Ren.mv_ok _ _) e); omega
  have pw : ∀ l, l ≠ us.hp.length → pushω (Ren.mv (.x 0) (.h st.hp.length)) us.hp.length (.ptr st.hp.length) noT ω l = Ag.ren (Ren.mv (.x 0) (.h st.hp.length)) (ω l) := fun l h => by simp [pushω, h, noT]
  refine ⟨_, upd ρ st.hp.length us.hp.length, RS.push (X' := X1 (.ptr st.hp.length 0) (.ptr us.hp.length 0)) R (Ren.mv_ok (.x 0) (.h st.hp.length)) (w0 := .ptr st.hp.length) (T := noT) (h1 := us.hp) (blk := ⟨.own, 1, u.cells⟩) rfl rfl (fun _ _ => rfl) rfl (fun l h => by cases h) (.inr ⟨_, rfl⟩) hfresh (fun hd' p => ?_) (fun t => ?_) (fun j => ?_) (by simp [clr_len, R.lsl]) R.lbx R.lb R.cb (fun k c => ?_) (fun i hi => ?_) (fun l i e => ?_) (fun l i p e => ?_)⟩
  · cases hd' with
    | x j =>
      refine .inr ?_
      by_cases hj : j = 0
      · subst hj
        have hq : ∀ p, ((PV.ptr st.hp.length 0).fcell p = .ptr st.hp.length 0 ∧ (V.ptr us.hp.length 0).fcell p = .ptr us.hp.length 0) ∨ (PV.ptr st.hp.length 0).fcell p = .fl .undef := by
          intro p
          match p with
          | [0] => exact .inl ⟨rfl, rfl⟩
          | [] => exact .inr rfl
          | (_ + 1) :: _ => exact .inr rfl
          | 0 :: _ :: _ => exact .inr rfl
        show nobx ((PV.ptr st.hp.length 0).fcell p) ∧ RC _ _ _ ((PV.ptr st.hp.length 0).fcell p) ((V.ptr us.hp.length 0).fcell p)
        rcases hq p with ⟨e1, e2⟩ | e
        · rw [e1, e2]; exact ⟨fun i pb tp => by simp [PV.q], .ptr _ _ _ _ _ (by simp [pushω])⟩
        · rw [e]; exact ⟨fun i pb tp => by simp [PV.q], .undef _ _⟩
      · exact undef_rc (fam_x1 j hj p)
    | s t =>
      simp only [fam, clr_get]
      split
      · exact .inr (undef_rc' (fcell_undef p))
      · rename_i hbor
        have hbor : (pget st.sl t).bor (.h st.hp.length) = false := by simpa using hbor
        exact .inl (movedT_still rfl (fun _ _ _ => rfl) (fun _ => Ren.mv_still (by simp) (by simp)) fun hb pb tp e hx => ⟨fun _ _ _ => rfl, Ren.mv_still (hx 0) (bor_ne (v := pget st.sl t) hbor (p := p) e)⟩)
    | b i => exact .inl (movedT_still rfl (fun _ _ _ => rfl) (fun _ => Ren.mv_still (by simp) (by simp)) fun hb pb tp e' => absurd e' (R.nobor_b i p hb pb tp))
    | h i =>
      by_cases hi : i = st.hp.length
      · subst hi
        have : fam (upd ρ st.hp.length us.hp.length) { st with sl := clr (.h st.hp.length) st.sl, hp := st.hp ++ [v.cells] } { us with hp := us.hp ++ [⟨.own, 1, u.cells⟩] } (X1 (.ptr st.hp.length 0) (.ptr us.hp.length 0)) (.h st.hp.length) p = cellAt v.cells u.cells p := by
          simp only [fam, hB, if_pos, upd_same, hN]
        rw [this]
        match p with
        | [] => exact .inr (undef_rc rfl)
        | _ :: _ :: _ => exact .inr (undef_rc rfl)
        | [c] => exact .inl ⟨.x 0, [c], (k4 c).symm, fun _ => ⟨fun _ _ _ => rfl, fun r => by simp [Ren.mv]⟩, fun hb pb tp e' => absurd e' (lay_q (cellL_get hc c).1 _ _ _)⟩
      · rcases Nat.lt_or_ge i st.hp.length with hlt | hge
        · have : fam (upd ρ st.hp.length us.hp.length) { st with sl := clr (.h st.hp.length) st.sl, hp := st.hp ++ [v.cells] } { us with hp := us.hp ++ [⟨.own, 1, u.cells⟩] } (X1 (.ptr st.hp.length 0) (.ptr us.hp.length 0)) (.h i) p = fam ρ st us (X1 v u) (.h i) p := by
            simp only [fam, hB, if_neg hi, upd_other _ _ _ _ hi, hV i hlt]
          rw [this]
          exact .inl (movedT_still rfl (fun _ _ _ => rfl) (fun _ => Ren.mv_still (by simp) (by simpa using hi)) fun hb pb tp e' => absurd e' (R.nobor_h i p hb pb tp))
        · refine .inr (undef_rc ?_)
          have hz : pgetB st.hp i = [] := by rw [pgetB_eq, List.getElem?_eq_none hge]; rfl
          simp only [fam, hB, if_neg hi, hz]; unfold cellAt; split <;> rfl
  · simp only [clr_get]; split
    · exact shp_undef _
    · exact R.sh t
  · by_cases hj : j = 0
    · subst hj; exact ⟨fun _ h => (by cases h), fun _ h => (by cases h)⟩
    · rw [X1_1 _ _ j hj]; exact shp_undef _
  · simp only [hB]; split
    · exact (cellL_get hc c).1
    · exact R.ch k c
  · simp only [List.length_append, List.length_cons, List.length_nil] at hi
    simp only [hB]
    by_cases h : i = st.hp.length
    · subst h
      rw [upd_same, if_pos rfl, hN]
      exact ⟨by simp [pushω], k1⟩
    · have hlt : i < st.hp.length := by omega
      rw [upd_other _ _ _ _ h, if_neg h, hV i hlt, pw _ (by have := hρ i hlt; omega), (R.hp i hlt).1]
      exact ⟨rfl, (R.hp i hlt).2⟩
  · simp only [List.length_append, List.length_cons, List.length_nil]
    by_cases h : l = us.hp.length
    · subst h; simp [pushω] at e; omega
    · rw [pw l h] at e
      have := R.bdp l i (ren_ptr (Ren.mv_ok _ _) e); omega
  · simp only [List.length_append, List.length_cons, List.length_nil]
    by_cases h : l = us.hp.length
    · subst h; simp [pushω] at e
    · rw [pw l h] at e
      obtain ⟨a, q, e1, e2⟩ := ren_own e
      unfold Ren.mv at e2
      split at e2
      · simp at e2; omega
      · split at e2
        · cases e2
        · simp at e2
          have := R.bdh l i q (by rw [e1, e2.1]); omega
end
theorem cellL_bor {cs : List PV} (h : cellL cs = true) (hd : Hd) : PV.borL hd cs = false := by
  cases e : PV.borL hd cs with
  | false => rfl
  | true =>
    obtain ⟨c, hc⟩ := (borL_iff hd cs).1 e
    have := (cellL_get h c).1
    generalize pget cs c = v at hc this
    cases v with
    | sl q es => cases q <;> first | (simp [PV.bor] at hc; done) | (simp [PV.lay] at this; done)
    | fl => simp [PV.bor] at hc
    | _ => simp [PV.lay] at this
theorem cellL_iff {cs : List PV} : cellL cs = true ↔ ∀ c, c < cs.length → (pget cs c).cell = true := by
  induction cs with
  | nil => simp [cellL]
  | cons x r ih =>
    simp only [cellL, Bool.and_eq_true, ih]
    constructor
    · rintro ⟨h1, h2⟩ c hc
      cases c with
      | zero => exact h1
      | succ c => exact h2 c (by simpa using hc)
    · exact fun h => ⟨h 0 (by simp), fun c hc => h (c + 1) (by simpa using hc)⟩
theorem cellL_splice {cs vs : List PV} {o : Nat} (h1 : cellL cs = true) (h2 : cellL vs = true) (hle : o + vs.length ≤ cs.length) : cellL (psplice cs o vs) = true := by
  rw [cellL_iff] at h1 h2 ⊢
  intro c hc
  rw [psplice_len] at hc
  rw [psplice_get _ _ _ _ hle]
  split
  · exact h2 _ (by omega)
  · exact h1 _ hc
def Ren.deep : Ren := fun hd p => if hd = .x 0 then (match p with | [] => .frz | c :: r => .own (.x 0) (0 :: c :: r)) else .own hd p
theorem Ren.deep_ok : Ren.deep.Ok := by
  refine ⟨fun hd p hd' p' x c e e' => ?_, fun hd p => ?_⟩
  · unfold Ren.deep at e e'
    split at e
    · rename_i h1
      split at e
      · cases e
      · cases e
        split at e'
        · rename_i h2
          split at e'
          · cases e'
          · simp at e'; exact ⟨h1.trans h2.symm, by rw [e'.1, e'.2]⟩
        · rename_i h2; simp at e'; exact absurd e'.1 h2
    · rename_i h1
      cases e
      split at e'
      · split at e'
        · cases e'
        · simp at e'; exact absurd e'.1.symm h1
      · simp at e'; exact ⟨e'.1.symm, e'.2.symm⟩
  · unfold Ren.deep
    split
    · split
      · exact .inl rfl
      · exact .inr ⟨_, _, rfl⟩
    · exact .inr ⟨_, _, rfl⟩
theorem Ren.deep_still {c : Hd} (h : c ≠ .x 0) : Ren.deep.still c := fun p => by simp [Ren.deep, h]
section
variable {h0 : Heap} {ω0 ω : Nat → W} {ρ ρ' : Nat → Nat} {st st' st1 : PS} {us us' : St} {X X' : Hands}
theorem o_allocH (R : RS h0 ω0 ω ρ st us X0) {zs : List V} (hz : zs.all V.flat = true) : Out2 (.allocH zs) us h0 ω0 (.ptr st.hp.length 0) { st with sl := clr (.h st.hp.length) st.sl, hp := st.hp ++ [zs.map ofV] } := by
  obtain ⟨ω', ρ', h⟩ := (R.handz hz).newptr (ofVs_cell hz)
  exact ⟨_, _, _, ω', ρ', by simp only [stepV]; rw [if_pos (flat_cells hz)]; rfl, h⟩
theorem o_boxH (R : RS h0 ω0 ω ρ st us X0) {n : Nat} {x : Opnd} {v : PV}
    (e : (match Ag.mvOut x st with | (v, st) => if v.cells.length = n ∧ cellL v.cells = true then some (PV.ptr st.hp.length 0, { st with sl := clr (.h st.hp.length) st.sl, hp := st.hp ++ [v.cells] }) else none) = some (v, st1)) : Out2 (.boxH n x) us h0 ω0 v st1 := by
  obtain ⟨ω1, R1⟩ := R.mv0 x
  generalize Ag.mvOut x st = mo at e R1
  obtain ⟨w, s⟩ := mo
  simp only at e R1
  split at e
  · rename_i hc
    obtain ⟨c2, c3⟩ := hc
    cases e
    obtain ⟨k1, k2, _, _⟩ := R1.hand_cells (i := 0) (v := w) (u := x.ev us.sl) rfl c3
    obtain ⟨ω', ρ', h⟩ := R1.newptr c3
    exact ⟨_, _, _, ω', ρ', by simp only [stepV]; rw [if_pos ⟨by rw [k1, c2], k2⟩], h⟩
  · cases e
theorem RS.part {cs : List PV} {ws : List V} (R : RS h0 ω0 ω ρ st us (X1 (.agg cs) (.agg ws))) (hc : cellL cs = true) (x : Opnd) {off size : Nat} (h1 : (Ag.mvOut x st).1.cells.length = size) (h2 : off + size ≤ cs.length) (h3 : cellL (Ag.mvOut x st).1.cells = true) :
    (x.ev us.sl).cells.length = size ∧ off + size ≤ ws.length ∧ (x.ev us.sl).cells.all V.cell = true ∧
      ∃ ω', RS h0 ω0 ω' ρ (Ag.mvOut x st).2 us (X1 (.agg (psplice cs off (Ag.mvOut x st).1.cells)) (.agg (splice ws off (x.ev us.sl).cells))) := by
  obtain ⟨ω1, R1⟩ := R.mvOut x 1 (fun p => by rw [X1_1 _ _ 1 (by simp)]; exact fcell_undef p) (fun n j => by
    by_cases hj : j = 0
    · subst hj; exact cellL_bor hc _
    · rw [X1_1 _ _ j hj]; rfl)
  generalize Ag.mvOut x st = mo at R1 h1 h3 ⊢
  obtain ⟨w, s⟩ := mo
  simp only at R1 h1 h3 ⊢
  obtain ⟨k1, k2, k3, k4⟩ := R1.hand_cells (i := 1) (v := w) (u := x.ev us.sl) (by simp [Xs]) h3
  have hl : ws.length = cs.length := by
    have := R1.shx 0
    simp only [Xs] at this
    obtain ⟨ws', e, hl⟩ := this
    cases e; exact hl
  subst h1
  have hx0 : ∀ c, fam ρ s us (Xs (X1 (.agg cs) (.agg ws)) 1 w (x.ev us.sl)) (.x 0) [c] = (pget cs c, get ws c) := fun c => rfl
  refine ⟨k1, by omega, k2, _, RS.ren (X' := X1 (.agg (psplice cs off w.cells)) (.agg (splice ws off (x.ev us.sl).cells))) R1 (Ren.seg_ok (a := .x 1) (o := 0) (n := w.cells.length) (b := .x 0) (o' := off) (by simp)) (seg_hh (by simp)) (fun hd' p => ?_) rfl R1.sh (fun j => ?_) R1.lsl R1.lbx R1.lb R1.cb R1.ch rfl (fun _ => rfl)⟩
  · cases hd' with
    | x j =>
      by_cases hj : j = 0
      · subst hj
        match p with
        | [] => exact .inr (undef_rc rfl)
        | _ :: _ :: _ => exact .inr (undef_rc rfl)
        | [c] =>
          have : fam ρ s us (X1 (.agg (psplice cs off w.cells)) (.agg (splice ws off (x.ev us.sl).cells))) (.x 0) [c] = (pget (psplice cs off w.cells) c, get (splice ws off (x.ev us.sl).cells) c) := rfl
          rw [this, psplice_get _ _ _ _ h2, splice_get' _ _ _ _ (by omega), k1]
          split
          · rename_i hcc
            refine .inl ⟨.x 1, [c - off], (k4 _).symm, fun _ r => ?_, fun hb pb tp e' => absurd e' (lay_q (cellL_get h3 _).1 _ _ _)⟩
            simp only [List.cons_append, List.nil_append]
            rw [Ren.seg_mv (by omega) (by omega), show c - off - 0 + off = c by omega]
          · rename_i hcc
            refine .inl ⟨.x 0, [c], (hx0 c).symm, fun _ r => ?_, fun hb pb tp e' => absurd e' (lay_q (cellL_get hc _).1 _ _ _)⟩
            exact Ren.seg_rest_b (by simp) (by omega) r
      · exact .inr (undef_rc (fam_x1 j hj p))
    | s t => exact .inl (moved_still rfl (fun _ => Ren.seg_still (by simp) (by simp)) fun hb pb tp e hx => Ren.seg_still (hx 1) (hx 0))
    | b i => exact .inl (moved_still rfl (fun _ => Ren.seg_still (by simp) (by simp)) fun hb pb tp e' => absurd e' (R1.nobor_b i p hb pb tp))
    | h i => exact .inl (moved_still rfl (fun _ => Ren.seg_still (by simp) (by simp)) fun hb pb tp e' => absurd e' (R1.nobor_h i p hb pb tp))
  · by_cases hj : j = 0
    · subst hj; exact ⟨_, rfl, by rw [splice_len, psplice_len]; exact hl⟩
    · rw [X1_1 _ _ j hj]; exact shp_undef _
theorem fill_sound : ∀ (ps : List (Nat × Nat × Opnd)) {ω : Nat → W} {st st1 : PS} {cs cs1 : List PV} {ws : List V}, RS h0 ω0 ω ρ st us (X1 (.agg cs) (.agg ws)) → cellL cs = true → pfill cs ps st = some (cs1, st1) →
    ∃ ws1 ω', fillA us.sl ws ps = some ws1 ∧ cellL cs1 = true ∧ RS h0 ω0 ω' ρ st1 us (X1 (.agg cs1) (.agg ws1))
  | [], ω, st, st1, cs, cs1, ws, R, hc, e => by
    simp only [pfill, Option.some.injEq, Prod.mk.injEq] at e
    obtain ⟨rfl, rfl⟩ := e
    exact ⟨ws, ω, rfl, hc, R⟩
  | (off, size, x) :: r, ω, st, st1, cs, cs1, ws, R, hc, e => by
    simp only [pfill] at e
    split at e
    · rename_i h
      obtain ⟨h1, h2, h3⟩ := h
      obtain ⟨a1, a2, a3, ω', R'⟩ := R.part hc x h1 h2 h3
      obtain ⟨ws1, ω'', b1, b2, b3⟩ := fill_sound r R' (cellL_splice hc h3 (by omega)) e
      exact ⟨ws1, ω'', by simp only [fillA]; rw [if_pos ⟨a1, a2, a3⟩]; exact b1, b2, b3⟩
    · cases e
theorem o_build (R : RS h0 ω0 ω ρ st us X0) {zs : List V} {ps : List (Nat × Nat × Opnd)} {v : PV}
    (e : (if zs.all V.flat = true then (pfill (zs.map ofV) ps st).map fun (cs, st) => (PV.agg cs, st) else none) = some (v, st1)) : Out2 (.build zs ps) us h0 ω0 v st1 := by
  split at e
  · rename_i hz
    simp only [Option.map_eq_some_iff] at e
    obtain ⟨⟨cs, s⟩, e1, e2⟩ := e
    cases e2
    obtain ⟨ws1, ω', h1, h2, h3⟩ := fill_sound ps (R.handz hz) (ofVs_cell hz) e1
    exact ⟨_, _, _, ω', ρ, by simp only [stepV]; rw [if_pos (flat_cells hz), h1]; rfl, h3⟩
  · cases e
theorem RS.newslice {cs : List PV} {ws : List V} (R : RS h0 ω0 ω ρ st us (X1 (.agg cs) (.agg ws))) (hc : cellL cs = true) {es : List (List PV)} {w : Nat} (hes : es ≠ []) (hw : ∀ e ∈ es, e.length = w) (hfl : ∀ k, k < es.length * w → pget es.flatten k = pget cs k) (hl : es.length * w ≤ ws.length) :
    ∃ ω', RS h0 ω0 ω' ρ st { us with hp := us.hp ++ [⟨.own, w, ws⟩] } (X1 (.sl .own es) (.slice us.hp.length 0 es.length)) := by
  have hρ : ∀ k, k < st.hp.length → ρ k < us.hp.length := fun k hk => by obtain ⟨b, h, _⟩ := R.blk hk; exact get_len h
  have hV : ∀ k, k < st.hp.length → blkcs (us.hp ++ [(⟨.own, w, ws⟩ : Blk)]) (ρ k) = blkcs us.hp (ρ k) := fun k hk => by simp only [blkcs]; rw [List.getElem?_append_left (hρ k hk)]
  have hfresh : ∀ l, noT l = false → Ag.ren Ren.deep (ω l) ≠ .own (.x 0) [0] := fun l _ e => by
    obtain ⟨a, q, _, e2⟩ := ren_own e
    unfold Ren.deep at e2
    split at e2
    · split at e2
      · cases e2
      · simp at e2
    · rename_i h; simp at e2; exact h e2.1
  have pw : ∀ l, l ≠ us.hp.length → pushω Ren.deep us.hp.length (.own (.x 0) [0]) noT ω l = Ag.ren Ren.deep (ω l) := fun l h => by simp [pushω, h, noT]
  have t := push_tr (h := us.hp) (ω := ω) (f := Ren.deep) (w0 := .own (.x 0) [0]) (T := noT) (blk := ⟨.own, w, ws⟩) (h1 := us.hp) rfl (fun _ _ => rfl) (fun l h => by cases h) R.core.notNone
  refine ⟨_, RS.push (X' := X1 (.sl .own es) (.slice us.hp.length 0 es.length)) R Ren.deep_ok (w0 := .own (.x 0) [0]) (T := noT) (h1 := us.hp) (blk := ⟨.own, w, ws⟩) rfl rfl (fun _ _ => rfl) rfl (fun l h => by cases h) (.inl ⟨_, _, rfl⟩) hfresh (fun hd' p => ?_) R.sh (fun j => ?_) R.lsl R.lbx R.lb R.cb R.ch (fun i hi => ?_) (fun l i e => ?_) (fun l i p e => ?_)⟩
  · cases hd' with
    | x j =>
      refine .inr ?_
      by_cases hj : j = 0
      · subst hj
        match p with
        | [] => exact undef_rc rfl
        | (_ + 1) :: _ => exact undef_rc rfl
        | 0 :: _ :: _ => exact undef_rc rfl
        | [0] =>
          refine ⟨fun i pb tp => by simp [fam, X1, PV.fcell, PV.q], ?_⟩
          refine RC.sl _ .own es us.hp.length 0 es.length ⟨.own, w, ws⟩ (by simp) (by simp) ⟨by simp [pushω], rfl, rfl⟩ (fun _ _ => hes) rfl hw (by simpa using hl) fun k hk => ?_
          rw [hfl k hk, Nat.zero_add]
          have r := R.core.rc (.x 0) [k]
          have r' : RC us.hp ω (.at (.x 0) [k]) (pget cs k) (get ws k) := r
          have hlay := (cellL_get hc k).1
          have r2 : RC us.hp ω (.inn (.x 0) [k]) (pget cs k) (get ws k) := by
            generalize pget cs k = a at r' hlay
            generalize get ws k = b at r'
            cases r' with
            | undef => exact .undef _ _
            | v _ _ hx => exact .v _ _ hx
            | nil => exact .nil _ _
            | sl _ q es' l o n b h1 hk hc hne hn hw hle hr =>
              cases q with
              | bor => simp [PV.lay] at hlay
              | pre => simp [PV.lay] at hlay
              | frz => exact .sl _ _ _ _ _ _ b h1 hk hc hne hn hw hle hr
              | own => exact .sl _ _ _ _ _ _ b h1 hk hc hne hn hw hle hr
              | ownw => exact .sl _ _ _ _ _ _ b h1 hk hc hne hn hw hle hr
            | ep => simp [PV.lay] at hlay
            | box => simp [PV.lay] at hlay
            | ptr => simp [PV.lay] at hlay
          exact r2.inn t (fun l r _ => by simp [noT]) (fun r => by simp [Ren.deep])
      · exact undef_rc (fam_x1 j hj p)
    | s t => exact .inl (movedT_still rfl (fun _ _ _ => rfl) (fun _ => Ren.deep_still (by simp)) fun hb pb tp e hx => ⟨fun _ _ _ => rfl, Ren.deep_still (hx 0)⟩)
    | b i => exact .inl (movedT_still rfl (fun _ _ _ => rfl) (fun _ => Ren.deep_still (by simp)) fun hb pb tp e' => absurd e' (R.nobor_b i p hb pb tp))
    | h i =>
      rcases Nat.lt_or_ge i st.hp.length with hlt | hge
      · have : fam ρ st { us with hp := us.hp ++ [⟨.own, w, ws⟩] } (X1 (.sl .own es) (.slice us.hp.length 0 es.length)) (.h i) p = fam ρ st us (X1 (.agg cs) (.agg ws)) (.h i) p := by simp only [fam, hV i hlt]
        rw [this]
        exact .inl (movedT_still rfl (fun _ _ _ => rfl) (fun _ => Ren.deep_still (by simp)) fun hb pb tp e' => absurd e' (R.nobor_h i p hb pb tp))
      · refine .inr (undef_rc ?_)
        have hz : pgetB st.hp i = [] := by rw [pgetB_eq, List.getElem?_eq_none hge]; rfl
        simp only [fam, hz]; unfold cellAt; split <;> rfl
  · by_cases hj : j = 0
    · subst hj; exact ⟨fun _ h => (by cases h), fun _ h => (by cases h)⟩
    · rw [X1_1 _ _ j hj]; exact shp_undef _
  · rw [pw _ (by have := hρ i hi; omega), (R.hp i hi).1, hV i hi]
    exact ⟨rfl, (R.hp i hi).2⟩
  · by_cases h : l = us.hp.length
    · subst h; simp [pushω] at e
    · rw [pw l h] at e
      exact R.bdp l i (ren_ptr Ren.deep_ok e)
  · by_cases h : l = us.hp.length
    · subst h; simp [pushω] at e
    · rw [pw l h] at e
      obtain ⟨a, q, e1, e2⟩ := ren_own e
      unfold Ren.deep at e2
      split at e2
      · split at e2 <;> simp at e2
      · simp at e2
        exact R.bdh l i q (by rw [e1, e2.1])
theorem rep_all {z : List V} (hz : z.all V.flat = true) : ∀ n, (rep z n).all V.flat = true
  | 0 => rfl
  | n + 1 => by rw [rep, List.all_append, hz, rep_all hz n]; rfl
theorem rep_len' (z : List V) : ∀ n, (rep z n).length = n * z.length
  | 0 => by simp [rep]
  | n + 1 => by rw [rep, List.length_append, rep_len' z n, Nat.add_mul]; omega
theorem rep_flat (z : List V) : ∀ n, (List.replicate n (z.map ofV)).flatten = (rep z n).map ofV
  | 0 => rfl
  | n + 1 => by rw [List.replicate_succ, List.flatten_cons, rep_flat z n, rep, List.map_append]
theorem o_mkSlice (R : RS h0 ω0 ω ρ st us X0) {w : Nat} {z : List V} {len : Opnd} {n : Int} (hl : len.pev st.sl = .fl (.int .i64 n)) (h1 : 0 ≤ n) (h2 : z.length = w) (h3 : 0 < w) (h4 : z.all V.flat = true) (h5 : roomy (n.toNat * w)) :
    Out2 (.mkSlice w z len) us h0 ω0 (.sl .own (List.replicate n.toNat (z.map ofV))) st := by
  have hev := (R.ev_fl hl (by simp)).1
  by_cases hn : n = 0
  · subst hn
    refine ⟨.nils, us.bx, us.hp, ω, ρ, by simp only [stepV, hev]; rw [if_pos ⟨h1, h2, h3, flat_cells h4, h5⟩, if_pos trivial], ?_⟩
    refine R.handx ⟨fun _ h => (by cases h), fun _ h => (by cases h)⟩ (fun p => ?_) (fun p => ?_)
    · match p with
      | [0] => exact .nil _ _
      | [] => exact .undef _ _
      | (_ + 1) :: _ => exact .undef _ _
      | 0 :: _ :: _ => exact .undef _ _
    · match p with
      | [0] => exact fun i pb tp => by simp [PV.fcell, PV.q]
      | [] => exact fun i pb tp => by simp [PV.fcell, PV.q]
      | (_ + 1) :: _ => exact fun i pb tp => by simp [PV.fcell, PV.q]
      | 0 :: _ :: _ => exact fun i pb tp => by simp [PV.fcell, PV.q]
  · have hne : List.replicate n.toNat (z.map ofV) ≠ [] := by
      intro h
      have := congrArg List.length h
      simp at this; omega
    obtain ⟨ω', h⟩ := (R.handz (rep_all h4 n.toNat)).newslice (ofVs_cell (rep_all h4 n.toNat)) (es := List.replicate n.toNat (z.map ofV)) (w := w) hne (fun e he => by rw [List.eq_of_mem_replicate he]; simpa using h2) (fun k _ => by rw [rep_flat]) (by rw [rep_len', h2]; simp)
    refine ⟨.slice us.hp.length 0 n.toNat, us.bx, us.hp ++ [(⟨.own, w, rep z n.toNat⟩ : Blk)], ω', ρ, by simp only [stepV, hev]; rw [if_pos ⟨h1, h2, h3, flat_cells h4, h5⟩, if_neg hn], ?_⟩
    rw [List.length_replicate] at h
    exact h
theorem chunks_len (w : Nat) : ∀ (n : Nat) (cs : List PV), (chunks w n cs).length = n
  | 0, _ => rfl
  | n + 1, cs => by simp [chunks, chunks_len w n]
theorem chunks_w (w : Nat) : ∀ (n : Nat) (cs : List PV), cs.length = n * w → ∀ e ∈ chunks w n cs, e.length = w
  | 0, _, _ => by simp [chunks]
  | n + 1, cs, h => by
    rw [Nat.add_mul, Nat.one_mul] at h
    simp only [chunks, List.mem_cons]
    rintro e (rfl | he)
    · simp; omega
    · exact chunks_w w n _ (by simp; omega) e he
theorem chunks_flat (w : Nat) : ∀ (n : Nat) (cs : List PV), cs.length = n * w → (chunks w n cs).flatten = cs
  | 0, cs, h => by
    have : cs = [] := List.eq_nil_of_length_eq_zero (by simpa using h)
    subst this; rfl
  | n + 1, cs, h => by
    rw [Nat.add_mul, Nat.one_mul] at h
    simp only [chunks, List.flatten_cons]
    rw [chunks_flat w n _ (by simp; omega), List.take_append_drop]
theorem pfill_len : ∀ (ps : List (Nat × Nat × Opnd)) {st st1 : PS} {cs cs1 : List PV}, pfill cs ps st = some (cs1, st1) → cs1.length = cs.length
  | [], st, st1, cs, cs1, e => by simp only [pfill, Option.some.injEq, Prod.mk.injEq] at e; rw [e.1]
  | (off, size, x) :: r, st, st1, cs, cs1, e => by
    simp only [pfill] at e
    split at e
    · rw [pfill_len r e, psplice_len]
    · cases e
theorem fillA_len {s : List V} : ∀ (ps : List (Nat × Nat × Opnd)) {cs cs1 : List V}, fillA s cs ps = some cs1 → cs1.length = cs.length
  | [], cs, cs1, e => by simp only [fillA, Option.some.injEq] at e; rw [e]
  | (off, size, x) :: r, cs, cs1, e => by
    simp only [fillA] at e
    split at e
    · rw [fillA_len r e, splice_len]
    · cases e
theorem o_litSlice (R : RS h0 ω0 ω ρ st us X0) {w n : Nat} {zs : List V} {ps : List (Nat × Nat × Opnd)} {v : PV}
    (e : (if n = 0 then some (PV.sl .own [], st) else if zs.all V.flat = true ∧ zs.length = n * w ∧ 0 < w then (pfill (zs.map ofV) ps st).map fun (cs, st) => (PV.sl .own (chunks w n cs), st) else none) = some (v, st1)) : Out2 (.litSlice w n zs ps) us h0 ω0 v st1 := by
  split at e
  · rename_i hn
    cases e
    refine ⟨.nils, us.bx, us.hp, ω, ρ, by simp only [stepV]; rw [if_pos hn], ?_⟩
    refine R.handx ⟨fun _ h => (by cases h), fun _ h => (by cases h)⟩ (fun p => ?_) (fun p => ?_)
    · match p with
      | [0] => exact .nil _ _
      | [] => exact .undef _ _
      | (_ + 1) :: _ => exact .undef _ _
      | 0 :: _ :: _ => exact .undef _ _
    · match p with
      | [0] => exact fun i pb tp => by simp [PV.fcell, PV.q]
      | [] => exact fun i pb tp => by simp [PV.fcell, PV.q]
      | (_ + 1) :: _ => exact fun i pb tp => by simp [PV.fcell, PV.q]
      | 0 :: _ :: _ => exact fun i pb tp => by simp [PV.fcell, PV.q]
  · rename_i hn
    split at e
    · rename_i hz
      obtain ⟨hz, hl, hw⟩ := hz
      simp only [Option.map_eq_some_iff] at e
      obtain ⟨⟨cs, s⟩, e1, e2⟩ := e
      cases e2
      obtain ⟨ws1, ω1, h1, h2, h3⟩ := fill_sound ps (R.handz hz) (ofVs_cell hz) e1
      have hcl : cs.length = n * w := by rw [pfill_len ps e1]; simpa using hl
      have hwl : ws1.length = n * w := by rw [fillA_len ps h1]; exact hl
      have hne : chunks w n cs ≠ [] := by
        intro h; have := congrArg List.length h; rw [chunks_len] at this; simp at this; omega
      obtain ⟨ω', h⟩ := h3.newslice h2 (es := chunks w n cs) (w := w) hne (chunks_w w n cs hcl) (fun k _ => by rw [chunks_flat w n cs hcl]) (by rw [chunks_len, hwl]; exact Nat.le_refl _)
      rw [chunks_len] at h
      refine ⟨.slice us.hp.length 0 n, us.bx, us.hp ++ [(⟨.own, w, ws1⟩ : Blk)], ω', ρ, ?_, h⟩
      simp only [stepV]; rw [if_neg hn, if_pos ⟨flat_cells hz, hl, hw⟩, h1]; rfl
    · cases e
end
theorem flatL_get {cs : List PV} (h : flatL cs = true) (c : Nat) (hc : c < cs.length) : ∃ x, pget cs c = .fl x ∧ x.flat = true := by
  induction cs generalizing c with
  | nil => simp at hc
  | cons v r ih =>
    simp only [flatL, Bool.and_eq_true] at h
    cases c with
    | zero =>
      have h1 := h.1
      simp only [pget]
      cases v <;> first | exact ⟨_, rfl, h1⟩ | simp [PV.flatc] at h1
    | succ c => exact ih h.2 c (by simpa using hc)
theorem flatE_flat {es : List (List PV)} (h : flatE es = true) : flatL es.flatten = true := by
  induction es with
  | nil => rfl
  | cons e r ih =>
    simp only [flatE, Bool.and_eq_true] at h
    have app : ∀ a b : List PV, flatL a = true → flatL b = true → flatL (a ++ b) = true := by
      intro a b
      induction a with
      | nil => intro _ h; exact h
      | cons x s ih => intro h1 h2; simp only [flatL, Bool.and_eq_true, List.cons_append] at h1 ⊢; exact ⟨h1.1, ih h1.2 h2⟩
    rw [List.flatten_cons]; exact app _ _ h.1 (ih h.2)
theorem flat_ne {x : V} (h : x.flat = true) : x ≠ .undef := by rintro rfl; simp [V.flat] at h
def Ren.app (m : Nat) : Ren := fun hd p => match hd, p with
  | .x 0, 0 :: k :: r => if k < m then .own (.x 0) (0 :: k :: r) else .frz
  | .x 1, 0 :: k :: r => .own (.x 0) (0 :: (m + k) :: r)
  | .x _, _ => .frz
  | hd, p => .own hd p
theorem Ren.app_still {m : Nat} {c : Hd} (h : ∀ i, c ≠ .x i) : (Ren.app m).still c := fun p => by
  cases c with
  | x i => exact absurd rfl (h i)
  | _ => rfl
theorem Ren.app_x {m i : Nat} {p : List Nat} : (∃ k r, i = 0 ∧ p = 0 :: k :: r ∧ k < m ∧ Ren.app m (.x i) p = .own (.x 0) (0 :: k :: r)) ∨ (∃ k r, i = 1 ∧ p = 0 :: k :: r ∧ Ren.app m (.x i) p = .own (.x 0) (0 :: (m + k) :: r)) ∨ Ren.app m (.x i) p = .frz := by
  unfold Ren.app
  split
  · rename_i k r e; cases e
    split
    · exact .inl ⟨k, r, rfl, rfl, ‹_›, rfl⟩
    · exact .inr (.inr rfl)
  · rename_i k r e; cases e; exact .inr (.inl ⟨k, r, rfl, rfl, rfl⟩)
  · exact .inr (.inr rfl)
  · rename_i h _ _; exact (h _ rfl).elim
theorem Ren.app_ok (m : Nat) : (Ren.app m).Ok := by
  refine ⟨fun hd p hd' p' x c e e' => ?_, fun hd p => ?_⟩
  · have st : ∀ (a : Hd) (q : List Nat), (∀ i, a ≠ .x i) → Ren.app m a q = .own a q := fun a q h => Ren.app_still h q
    cases hd with
    | x i =>
      rcases Ren.app_x (m := m) (i := i) (p := p) with ⟨k, r, rfl, rfl, hk, h⟩ | ⟨k, r, rfl, rfl, h⟩ | h
      · rw [h] at e; cases e
        cases hd' with
        | x j =>
          rcases Ren.app_x (m := m) (i := j) (p := p') with ⟨k', r', rfl, rfl, hk', h'⟩ | ⟨k', r', rfl, rfl, h'⟩ | h'
          · rw [h'] at e'; simp at e'; exact ⟨rfl, by rw [e'.1, e'.2]⟩
          · rw [h'] at e'; simp at e'; omega
          · rw [h'] at e'; cases e'
        | _ => rw [st _ _ (by simp)] at e'; cases e'
      · rw [h] at e; cases e
        cases hd' with
        | x j =>
          rcases Ren.app_x (m := m) (i := j) (p := p') with ⟨k', r', rfl, rfl, hk', h'⟩ | ⟨k', r', rfl, rfl, h'⟩ | h'
          · rw [h'] at e'; simp at e'; omega
          · rw [h'] at e'; simp at e'; exact ⟨rfl, by rw [e'.1, e'.2]⟩
          · rw [h'] at e'; cases e'
        | _ => rw [st _ _ (by simp)] at e'; cases e'
      · rw [h] at e; cases e
    | _ =>
      rw [st _ _ (by simp)] at e; cases e
      cases hd' with
      | x j =>
        rcases Ren.app_x (m := m) (i := j) (p := p') with ⟨k', r', rfl, rfl, hk', h'⟩ | ⟨k', r', rfl, rfl, h'⟩ | h' <;> rw [h'] at e' <;> cases e'
      | _ => rw [st _ _ (by simp)] at e'; first | (cases e'; done) | (cases e'; exact ⟨rfl, rfl⟩)
  · cases hd with
    | x i => rcases Ren.app_x (m := m) (i := i) (p := p) with ⟨k, r, _, _, _, h⟩ | ⟨k, r, _, _, h⟩ | h <;> rw [h] <;> first | exact .inl rfl | exact .inr ⟨_, _, rfl⟩
    | _ => exact .inr ⟨_, _, rfl⟩
theorem app_hh {m : Nat} (hd : Hd) (p : List Nat) (i : Nat) (q : List Nat) (e : Ren.app m hd p = .own (.h i) q) : hd = .h i := by
  cases hd with
  | x j => rcases Ren.app_x (m := m) (i := j) (p := p) with ⟨k, r, _, _, _, h⟩ | ⟨k, r, _, _, h⟩ | h <;> rw [h] at e <;> cases e
  | _ => first | (cases e; done) | (cases e; rfl)
section
variable {h0 : Heap} {ω0 ω : Nat → W} {ρ ρ' : Nat → Nat} {st st' st1 : PS} {us us' : St} {X X' : Hands}
def NewCells (h : Heap) (ω : Nat → W) (vy : PV) (w : Nat) (new : List (List PV)) (ycs : List V) : Prop :=
  (∀ e ∈ new, e.length = w) ∧ ycs.length = new.length * w ∧ ((vy = .sl .own new ∧ ∀ k, k < new.length * w → RC h ω (.inn (.x 1) [0, k]) (pget new.flatten k) (get ycs k)) ∨ (vy = .fl .undef ∧ ∀ k, k < new.length * w → ∃ x, x.flat = true ∧ pget new.flatten k = .fl x ∧ get ycs k = x))
def X2 (v : PV) (u : V) (vy : PV) (uy : V) : Hands := Xs (Xs X0 1 vy uy) 0 v u
theorem RS.appK {v0 : PV} {u0 : V} {vy : PV} {uy : V} (R : RS h0 ω0 ω ρ st us (X2 v0 u0 vy uy)) {w : Nat} {es new : List (List PV)} {ycs : List V} (hN : NewCells us.hp ω vy w new ycs) (hk : 0 < new.length) (hw0 : 0 < w) (hroom : roomy ((es.length + new.length) * w))
    (h0' : (u0 = .nils ∧ es = []) ∨ ∃ q l b, v0 = .sl q es ∧ u0 = .slice l 0 es.length ∧ us.hp[l]? = some b ∧ b.k = .own ∧ b.w = w ∧ ω l = .own (.x 0) [0] ∧ es.length * w ≤ b.cs.length ∧ (∀ e ∈ es, e.length = w) ∧ ∀ k, k < es.length * w → RC us.hp ω (.inn (.x 0) [0, k]) (pget es.flatten k) (get b.cs k))
    (hy : srcCells us.hp w uy = some (ycs, new.length)) :
    ∃ ω' ur h', Ag.app us.hp w u0 uy = some (ur, h') ∧ RS h0 ω0 ω' ρ st { us with hp := h' } (X1 (.sl .own (es ++ new)) ur) := by
  obtain ⟨n1, n2, n3⟩ := hN
  have hw : ∀ e ∈ es, e.length = w := by
    rcases h0' with ⟨_, rfl⟩ | ⟨q, l, b, _, _, _, _, _, _, _, h, _⟩
    · simp
    · exact h
  have hlen : es.flatten.length = es.length * w := flat_len hw
  -- the block that dies
  have key : ∃ (T : Nat → Bool) (h1 : Heap) (xcs : List V), (∀ l, T l = true → ω l = .own (.x 0) [0]) ∧ h1.length = us.hp.length ∧ (∀ l, T l = false → h1[l]? = us.hp[l]?) ∧ xcs.length = es.length * w ∧
      (∀ k, k < es.length * w → RC us.hp ω (.inn (.x 0) [0, k]) (pget es.flatten k) (get xcs k)) ∧ Ag.app us.hp w u0 uy = some (.slice us.hp.length 0 (es.length + new.length), h1 ++ [⟨.own, w, xcs ++ ycs⟩]) := by
    rcases h0' with ⟨rfl, rfl⟩ | ⟨q, l, b, _, rfl, hb, hbk, hbw, hlab, hle, _, hr⟩
    · refine ⟨noT, us.hp, [], fun l h => (by cases h), rfl, fun _ _ => rfl, by simp, fun k hk => (by simp at hk), ?_⟩
      simp only [Ag.app, hy]
      rw [if_neg (by omega), if_pos (by simpa using hroom)]
      simp
    · refine ⟨fun l' => l' == l, us.hp.set l ⟨.dead, w, []⟩, b.cs.take (es.length * w), fun l' h => ?_, by simp, fun l' h => ?_, by simp; omega, fun k hk => ?_, ?_⟩
      · have : l' = l := by simpa using h
        rw [this]; exact hlab
      · have : l' ≠ l := by simpa using h
        rw [List.getElem?_set_ne (Ne.symm this)]
      · have := hr k hk
        have e : get (b.cs.take (es.length * w)) k = get b.cs k := by
          have := seg_get b.cs 0 (es.length * w) k
          simp only [List.drop_zero, Nat.zero_add] at this
          rw [this, if_pos hk]
        rw [e]; exact this
      · simp only [Ag.app, hy]
        rw [if_neg (by omega), hb]
        simp only
        rw [if_pos ⟨hbk, hbw, trivial, hle, hroom⟩]
  obtain ⟨T, h1, xcs, t1, t2, t3, t4, t5, t6⟩ := key
  have hTo : ∀ l, T l = true → ∃ hd p, ω l = .own hd p := fun l h => ⟨_, _, t1 l h⟩
  have hρ : ∀ k, k < st.hp.length → ρ k < us.hp.length := fun k hk => by obtain ⟨b, h, _⟩ := R.blk hk; exact get_len h
  have nT : ∀ l, (∀ r, ω l ≠ .own (.x 0) r) → T l = false := fun l h => by
    cases e : T l with
    | false => rfl
    | true => exact absurd (t1 l e) (h _)
  have nT2 : ∀ l a q, ω l = .own a q → (∀ i, a ≠ .x i) → T l = false := fun l a q e h => nT l fun r e' => by rw [e] at e'; cases e'; exact h 0 rfl
  have hfresh : ∀ l, T l = false → Ag.ren (Ren.app (es.length * w)) (ω l) ≠ .own (.x 0) [0] := fun l _ e => by
    obtain ⟨a, q, _, e2⟩ := ren_own e
    cases a with
    | x i => rcases Ren.app_x (m := es.length * w) (i := i) (p := q) with ⟨k, r, _, _, _, h⟩ | ⟨k, r, _, _, h⟩ | h <;> rw [h] at e2 <;> cases e2
    | _ => cases e2
  have hV : ∀ k, k < st.hp.length → blkcs (h1 ++ [(⟨.own, w, xcs ++ ycs⟩ : Blk)]) (ρ k) = blkcs us.hp (ρ k) := fun k hk => by
    simp only [blkcs]; rw [List.getElem?_append_left (by rw [t2]; exact hρ k hk), t3 _ (nT _ fun r e => by rw [(R.hp k hk).1] at e; cases e)]
  have t := push_tr (h := us.hp) (ω := ω) (f := Ren.app (es.length * w)) (w0 := .own (.x 0) [0]) (T := T) (blk := ⟨.own, w, xcs ++ ycs⟩) (h1 := h1) t2 t3 hTo R.core.notNone
  have pw : ∀ l, l ≠ us.hp.length → T l = false → pushω (Ren.app (es.length * w)) us.hp.length (.own (.x 0) [0]) T ω l = Ag.ren (Ren.app (es.length * w)) (ω l) := fun l h h' => by simp [pushω, h, h']
  have hlw : ∀ e ∈ es ++ new, e.length = w := by
    intro e he
    rcases List.mem_append.1 he with he | he
    · exact hw e he
    · exact n1 e he
  have hlast : (h1 ++ [(⟨.own, w, xcs ++ ycs⟩ : Blk)])[us.hp.length]? = some ⟨.own, w, xcs ++ ycs⟩ := by rw [← t2]; simp
  refine ⟨_, _, _, t6, RS.push (X' := X1 (.sl .own (es ++ new)) (.slice us.hp.length 0 (es.length + new.length))) R (Ren.app_ok (es.length * w)) (w0 := .own (.x 0) [0]) (T := T) (h1 := h1) (blk := ⟨.own, w, xcs ++ ycs⟩) rfl t2 t3 rfl hTo (.inl ⟨_, _, rfl⟩) hfresh (fun hd' p => ?_) R.sh (fun j => ?_) R.lsl R.lbx R.lb R.cb R.ch (fun i hi => ?_) (fun l i e => ?_) (fun l i p e => ?_)⟩
  · cases hd' with
    | x j =>
      refine .inr ?_
      by_cases hj : j = 0
      · subst hj
        match p with
        | [] => exact undef_rc rfl
        | (_ + 1) :: _ => exact undef_rc rfl
        | 0 :: _ :: _ => exact undef_rc rfl
        | [0] =>
          refine ⟨fun i pb tp => by simp [fam, X1, PV.fcell, PV.q], ?_⟩
          refine RC.sl _ .own (es ++ new) us.hp.length 0 (es.length + new.length) ⟨.own, w, xcs ++ ycs⟩ hlast (by simp) ⟨by simp [pushω], rfl, rfl⟩ (fun _ _ h => by simp at h; rw [h.2] at hk; simp at hk) (by simp) hlw (by simp only [List.length_append, Nat.zero_add, t4, n2, Nat.add_mul]; exact Nat.le_refl _) fun k hk' => ?_
          rw [Nat.zero_add, List.flatten_append]
          simp only [List.length_append, Nat.add_mul] at hk'
          by_cases hke : k < es.length * w
          · rw [pget_append_left _ _ _ (by rw [hlen]; exact hke), get_append_left _ _ _ (by rw [t4]; exact hke)]
            exact (t5 k hke).inn t (fun l r e => by
              have : T l = false := by
                cases e' : T l with
                | false => rfl
                | true => have := t1 l e'; rw [e] at this; simp at this
              simp [this]) (fun r => by simp [Ren.app, hke])
          · rw [pget_append_right _ _ _ (by rw [hlen]; omega), get_append_right _ _ _ (by rw [t4]; omega), hlen, t4]
            rcases n3 with ⟨_, hr⟩ | ⟨_, hf⟩
            · have r := hr (k - es.length * w) (by omega)
              refine r.inn t (fun l r e => ?_) (fun r => ?_)
              · rw [nT l (fun r' e' => by rw [e] at e'; cases e')]; simp
              · simp only [Ren.app, List.cons_append, List.nil_append, Md.sub]
                rw [show es.length * w + (k - es.length * w) = k by omega]
            · obtain ⟨x, hx1, hx2, hx3⟩ := hf (k - es.length * w) (by omega)
              rw [hx2, hx3]; exact .v _ _ hx1
      · exact undef_rc (fam_x1 j hj p)
    | s t' => exact .inl (movedT_still rfl (fun l q e => nT2 l _ q e (by simp)) (fun _ => Ren.app_still (by simp)) fun hb pb tp e hx => ⟨fun l q e => nT2 l _ q e hx, Ren.app_still hx⟩)
    | b i => exact .inl (movedT_still rfl (fun l q e => nT2 l _ q e (by simp)) (fun _ => Ren.app_still (by simp)) fun hb pb tp e' => absurd e' (R.nobor_b i p hb pb tp))
    | h i =>
      rcases Nat.lt_or_ge i st.hp.length with hlt | hge
      · have : fam ρ st { us with hp := h1 ++ [⟨.own, w, xcs ++ ycs⟩] } (X1 (.sl .own (es ++ new)) (.slice us.hp.length 0 (es.length + new.length))) (.h i) p = fam ρ st us (X2 v0 u0 vy uy) (.h i) p := by simp only [fam, hV i hlt]
        rw [this]
        exact .inl (movedT_still rfl (fun l q e => nT2 l _ q e (by simp)) (fun _ => Ren.app_still (by simp)) fun hb pb tp e' => absurd e' (R.nobor_h i p hb pb tp))
      · refine .inr (undef_rc ?_)
        have hz : pgetB st.hp i = [] := by rw [pgetB_eq, List.getElem?_eq_none hge]; rfl
        simp only [fam, hz]; unfold cellAt; split <;> rfl
  · by_cases hj : j = 0
    · subst hj; exact ⟨fun _ h => (by cases h), fun _ h => (by cases h)⟩
    · rw [X1_1 _ _ j hj]; exact shp_undef _
  · have hnT : T (ρ i) = false := nT _ fun r e => by rw [(R.hp i hi).1] at e; cases e
    rw [pw _ (by have := hρ i hi; omega) hnT, (R.hp i hi).1, hV i hi]
    exact ⟨rfl, (R.hp i hi).2⟩
  · by_cases h : l = us.hp.length
    · subst h; simp [pushω] at e
    · cases hT : T l with
      | true => simp [pushω, h, hT] at e
      | false => rw [pw l h hT] at e; exact R.bdp l i (ren_ptr (Ren.app_ok _) e)
  · by_cases h : l = us.hp.length
    · subst h; simp [pushω] at e
    · cases hT : T l with
      | true => simp [pushω, h, hT] at e
      | false =>
        rw [pw l h hT] at e
        obtain ⟨a, q, e1, e2⟩ := ren_own e
        have := app_hh a q i p e2
        subst this
        exact R.bdh l i q e1
theorem RS.handU (R : RS h0 ω0 ω ρ st us X0) (i : Nat) (u : V) : RS h0 ω0 ω ρ st us (Xs X0 i (.fl .undef) u) := by
  have := RS.ren (st' := st) (us' := us) (X' := Xs X0 i (.fl .undef) u) R Ren.id_ok (fun hd p i q e => by simp [Ren.id] at e; exact e.1) (fun hd' p => ?_) rfl R.sh (fun j => ?_) R.lsl R.lbx R.lb R.cb R.ch rfl (fun _ => rfl)
  · rwa [ren_id] at this
  · cases hd' with
    | x j => exact .inr (undef_rc (by by_cases hj : j = i <;> simp [fam, Xs, hj, X0, fcell_undef]))
    | s t => exact .inl (moved_id rfl)
    | b t => exact .inl (moved_id rfl)
    | h t => exact .inl (moved_id rfl)
  · by_cases hj : j = i <;> simp [Xs, hj, X0] <;> exact shp_undef _
theorem src_sound (R : RS h0 ω0 ω ρ st us X0) {w : Nat} {y : Opnd} {new : List (List PV)} (hw0 : 0 < w) (e : p_src w y st = some (new, st')) :
    ∃ ω' vy ycs, RS h0 ω0 ω' ρ st' us (Xs X0 1 vy (y.ev us.sl)) ∧ (∀ hd, vy.bor hd = false) ∧ NewCells us.hp ω' vy w new ycs ∧ srcCells us.hp w (y.ev us.sl) = some (ycs, new.length) := by
  have rdw : ∀ {l o : Nat} {b : Blk} {es : List (List PV)}, us.hp[l]? = some b → b.k ≠ .dead → (es ≠ [] → b.w = w) → o + es.length * b.w ≤ b.cs.length → srcCells us.hp w (.slice l o es.length) = some ((b.cs.drop o).take (es.length * w), es.length) ∧ ((b.cs.drop o).take (es.length * w)).length = es.length * w := by
    intro l o b es h1 hk hbw hle
    have hle' : o + es.length * w ≤ b.cs.length := by
      by_cases hes : es = []
      · subst hes; simp at hle ⊢; exact hle
      · rw [← hbw hes]; exact hle
    exact ⟨by simp only [srcCells, rd, h1]; rw [if_pos ⟨hk, hle'⟩]; rfl, take_drop_len hle'⟩
  have flatcase : ∀ {q : Ql} {es : List (List PV)}, y.pev st.sl = .sl q es → allW w es = true → flatE es = true → ∃ ω' vy ycs, RS h0 ω0 ω' ρ st us (Xs X0 1 vy (y.ev us.sl)) ∧ (∀ hd, vy.bor hd = false) ∧ NewCells us.hp ω' vy w es ycs ∧ srcCells us.hp w (y.ev us.sl) = some (ycs, es.length) := by
    intro q es hy haw hfl
    have haw' := (allW_iff w es).1 haw
    obtain ⟨hd, _, r⟩ := R.ev_one hy (fun _ h => (by cases h)) (fun _ h => (by cases h)) (fun _ h => (by cases h))
    refine (fun ⟨ycs, a, b⟩ => ⟨ω, .fl .undef, ycs, R.handU 1 _, fun _ => rfl, a, b⟩ : _ → _) (?_ : ∃ ycs, NewCells us.hp ω (.fl .undef) w es ycs ∧ srcCells us.hp w (y.ev us.sl) = some (ycs, es.length))
    generalize y.ev us.sl = u at r
    cases r with
    | nil => exact ⟨[], ⟨by simp, by simp, .inr ⟨rfl, fun k hk => by simp at hk⟩⟩, rfl⟩
    | sl _ _ _ l o n b h1 hk hc hne hn hw hle hr =>
      subst hn
      have hbw : es ≠ [] → b.w = w := fun h => by
        obtain ⟨e0, he0⟩ := List.exists_mem_of_ne_nil _ h
        rw [← hw e0 he0]; exact haw' e0 he0
      obtain ⟨a1, a2⟩ := rdw h1 hk hbw hle
      refine ⟨_, ⟨haw', a2, .inr ⟨rfl, fun k hk' => ?_⟩⟩, a1⟩
      have hes : es ≠ [] := by rintro rfl; simp at hk'
      obtain ⟨x, hx1, hx2⟩ := flatL_get (flatE_flat hfl) k (by rw [flat_len haw']; exact hk')
      have r := hr k (by rw [hbw hes]; exact hk')
      rw [hx1] at r
      refine ⟨x, hx2, hx1, ?_⟩
      rw [seg_get, if_pos hk']
      generalize get b.cs (o + k) = z at r
      generalize Md.sub (.at hd [0]) q k = mm at r
      cases r with
      | undef => exact absurd rfl (flat_ne hx2)
      | v => rfl
  unfold p_src at e
  split at e
  · rename_i s hy
    split at e
    · rename_i hw
      cases e
      subst hw
      rw [(R.ev_fl hy (by simp)).1]
      refine ⟨ω, .fl .undef, s.map fun b => .int .u8 b.toNat, R.handU 1 _, fun _ => rfl, ⟨by simp, by simp, .inr ⟨rfl, fun k hk => ?_⟩⟩, by simp [srcCells]⟩
      simp only [List.length_map, Nat.mul_one] at hk
      have := flat_get (w := 1) (es := s.map fun b => [PV.fl (.int .u8 b.toNat)]) (by simp) k 0 (by omega)
      simp only [Nat.mul_one, Nat.add_zero] at this
      rw [this, elt_eq, get_eq, List.getElem?_map, List.getElem?_map, List.getElem?_eq_getElem hk]
      exact ⟨_, rfl, rfl, rfl⟩
    · cases e
  · rename_i es hy
    split at e
    · rename_i hc; cases e; exact flatcase hy hc.1 hc.2
    · cases e
  · rename_i hd p t es hy
    split at e
    · rename_i hc; cases e; exact flatcase hy hc.1 hc.2
    · cases e
  · rename_i hd p es hy
    split at e
    · rename_i hc; cases e; exact flatcase hy hc.1 hc.2
    · cases e
  · rename_i es hy
    split at e
    · rename_i haw
      cases e
      have haw' := (allW_iff w new).1 haw
      obtain ⟨ω1, R1⟩ := R.mvOut y 1 (fun p => fcell_undef p) (fun n j => rfl)
      have hmo : (Ag.mvOut y st).1 = .sl .own new := by
        cases y with
        | c v => exact hy
        | t n =>
          simp only [Opnd.pev] at hy
          simp only [Ag.mvOut, hy, mvS, PV.own, PV.bor, if_true, Bool.false_eq_true, if_false]
      rw [hmo] at R1
      have r := R1.core.rc (.x 1) [0]
      have hs := R1.shx 1
      refine ⟨ω1, .sl .own new, ?_⟩
      refine (fun ⟨ycs, a, b⟩ => ⟨ycs, R1, fun _ => rfl, a, b⟩ : _ → _) (?_ : ∃ ycs, NewCells us.hp ω1 (.sl .own new) w new ycs ∧ srcCells us.hp w (y.ev us.sl) = some (ycs, new.length))
      have hs' : (∀ us', y.ev us.sl ≠ .agg us') ∧ ∀ us', y.ev us.sl ≠ .tup us' := by
        have : Shp (.sl .own new) (y.ev us.sl) := hs
        exact this
      have r' : RC us.hp ω1 (.at (.x 1) [0]) (.sl .own new) (y.ev us.sl) := by
        have : RC us.hp ω1 (.at (.x 1) [0]) (.sl .own new) ((y.ev us.sl).fcell [0]) := r
        rwa [vfcell_scalar hs'.1 hs'.2] at this
      generalize y.ev us.sl = u at r'
      cases r' with
      | nil => exact ⟨[], ⟨by simp, by simp, .inl ⟨rfl, fun k hk => by simp at hk⟩⟩, rfl⟩
      | sl _ _ _ l o n b h1 hk hc hne hn hw hle hr =>
        subst hn
        have hes := hne rfl (.inl rfl)
        obtain ⟨e0, he0⟩ := List.exists_mem_of_ne_nil _ hes
        have hbw : b.w = w := by rw [← hw e0 he0]; exact haw' e0 he0
        obtain ⟨a1, a2⟩ := rdw h1 hk (fun _ => hbw) hle
        refine ⟨_, ⟨haw', a2, .inl ⟨rfl, fun k hk' => ?_⟩⟩, a1⟩
        have r := hr k (by rw [hbw]; exact hk')
        rw [seg_get, if_pos hk']
        simpa [Md.sub] using r
    · cases e
  · rename_i w' hy
    cases e
    obtain ⟨hd, _, r⟩ := R.ev_one hy (fun _ h => (by cases h)) (fun _ h => (by cases h)) (fun _ h => (by cases h))
    refine (fun a => ⟨ω, .fl .undef, [], R.handU 1 _, fun _ => rfl, ⟨by simp, by simp, .inr ⟨rfl, fun k hk => by simp at hk⟩⟩, a⟩ : _ → _) (?_ : srcCells us.hp w (y.ev us.sl) = some ([], 0))
    generalize y.ev us.sl = u at r
    cases r with
    | nil => rfl
    | sl _ _ _ l o n b h1 hk hc hne hn hw hle hr =>
      subst hn
      have := (rdw (es := []) h1 hk (fun h => absurd rfl h) hle).1
      simpa using this
  · cases e
end
section
variable {h0 : Heap} {ω0 ω : Nat → W} {ρ ρ' : Nat → Nat} {st st' st1 : PS} {us us' : St} {X X' : Hands}
theorem setK_spec (R : RS h0 ω0 ω ρ st us X) {hd : Hd} {c : Nat} {qh : Ql} {eh : List (List PV)} (hg : getK st hd [c] = .sl qh eh) {v : PV} (hv : v = .fl .undef ∨ ∃ q es, v = .sl q es) (hl : v.lay = true) :
    (∀ hd' p, (∀ i, hd' ≠ .x i) → (fam ρ (setK st v hd [c]) us X' hd' p).1 = .fl .undef ∨ (hd' = hd ∧ p = [c] ∧ (fam ρ (setK st v hd [c]) us X' hd' p) = (v, (fam ρ st us X hd [c]).2)) ∨
      (fam ρ (setK st v hd [c]) us X' hd' p = fam ρ st us X hd' p ∧ ¬ (hd' = hd ∧ p = [c]) ∧ ∀ hb pb tp, (fam ρ st us X hd' p).1.q = some (.bor hb pb tp) → hb ≠ hd)) ∧
    (∀ t, Shp (pget (setK st v hd [c]).sl t) (get us.sl t)) ∧ (setK st v hd [c]).sl.length = st.sl.length ∧ (setK st v hd [c]).bx.length = st.bx.length ∧ (∀ i, (pgetB (setK st v hd [c]).bx i).length = (pgetB st.bx i).length) ∧
    (∀ i c', (pget (pgetB (setK st v hd [c]).bx i) c').lay = true) ∧ (∀ i c', (pget (pgetB (setK st v hd [c]).hp i) c').lay = true) ∧ (setK st v hd [c]).hp.length = st.hp.length ∧ (∀ i, (pgetB (setK st v hd [c]).hp i).length = (pgetB st.hp i).length) ∧
    (∀ i, hd ≠ .x i) ∧ fam ρ st us X hd [c] = (.sl qh eh, (fam ρ st us X hd [c]).2) ∧ ∀ p, (fam ρ st us X hd p).1 = .fl .undef ∨ ∃ c', p = [c'] := by
  have cat : ∀ (cs : List PV) (ws : List V) p, (cellAt cs ws p).1 = .fl .undef ∨ ∃ c', p = [c'] := by
    intro cs ws p
    match p with
    | [c'] => exact .inr ⟨c', rfl⟩
    | [] => exact .inl rfl
    | _ :: _ :: _ => exact .inl rfl
  have clr3 : ∀ (sl' : List PV) (t : Nat) (p : List Nat) (hd : Hd), sl' = clr hd st.sl → (pget sl' t).fcell p = .fl .undef ∨ ((pget sl' t).fcell p = (pget st.sl t).fcell p ∧ ∀ hb pb tp, ((pget st.sl t).fcell p).q = some (.bor hb pb tp) → hb ≠ hd) := by
    rintro sl' t p hd rfl
    rw [clr_get]
    cases hb : (pget st.sl t).bor hd with
    | true => left; exact fcell_undef p
    | false => right; exact ⟨rfl, fun hb' pb tp e => bor_ne hb e⟩
  cases hd with
  | x i => cases hg
  | b i =>
    simp only [getK] at hg
    have hi : i < st.bx.length := by
      rcases Nat.lt_or_ge i st.bx.length with h | h
      · exact h
      · rw [pgetB_eq, List.getElem?_eq_none h] at hg; cases hg
    have hc : c < (pgetB st.bx i).length := by
      rcases Nat.lt_or_ge c (pgetB st.bx i).length with h | h
      · exact h
      · rw [pget_ge _ _ h] at hg; cases hg
    have hB : ∀ k, pgetB (pputB st.bx i (pput (pgetB st.bx i) c v)) k = if k = i then pput (pgetB st.bx i) c v else pgetB st.bx k := by intro k; rw [pgetB_put]; simp [hi]
    refine ⟨fun hd' p hx => ?_, fun t => ?_, by simp [setK, clr_len], by simp [setK, pputB_len], fun k => ?_, fun k c' => ?_, R.ch, rfl, fun _ => rfl, by simp, by simp only [fam, cellAt, hg], cat _ _⟩
    · cases hd' with
      | x j => exact absurd rfl (hx j)
      | s t =>
        rcases clr3 _ t p (.b i) rfl with h | ⟨h1, h2⟩
        · left; exact h
        · right; right
          refine ⟨?_, by simp, h2⟩
          simp only [fam, setK]; rw [h1]
      | h j => right; right; exact ⟨rfl, by simp, fun hb pb tp e => absurd e (R.nobor_h j p hb pb tp)⟩
      | b j =>
        by_cases hj : j = i
        · subst hj
          match p with
          | [] => left; rfl
          | _ :: _ :: _ => left; rfl
          | [c'] =>
            by_cases hcc : c' = c
            · subst hcc
              right; left
              refine ⟨rfl, rfl, ?_⟩
              simp only [fam, setK, hB, if_pos, cellAt, pget_put, hc, and_self]
            · right; right
              refine ⟨?_, by simp [hcc], fun hb pb tp e => absurd e (R.nobor_b j _ hb pb tp)⟩
              simp only [fam, setK, hB, if_pos, cellAt, pget_put, hcc, false_and, if_false]
        · right; right
          refine ⟨?_, by simp [hj], fun hb pb tp e => absurd e (R.nobor_b j p hb pb tp)⟩
          simp only [fam, setK, hB, if_neg hj]
    · simp only [setK, clr_get]; split
      · exact shp_undef _
      · exact R.sh t
    · simp only [setK, hB]; split
      · rename_i h; rw [h, pput_len]
      · rfl
    · simp only [setK, hB]; split
      · rw [pget_put]; split
        · exact hl
        · exact R.cb i c'
      · exact R.cb k c'
  | h i =>
    simp only [getK] at hg
    have hi : i < st.hp.length := by
      rcases Nat.lt_or_ge i st.hp.length with h | h
      · exact h
      · rw [pgetB_eq, List.getElem?_eq_none h] at hg; cases hg
    have hc : c < (pgetB st.hp i).length := by
      rcases Nat.lt_or_ge c (pgetB st.hp i).length with h | h
      · exact h
      · rw [pget_ge _ _ h] at hg; cases hg
    have hB : ∀ k, pgetB (pputB st.hp i (pput (pgetB st.hp i) c v)) k = if k = i then pput (pgetB st.hp i) c v else pgetB st.hp k := by intro k; rw [pgetB_put]; simp [hi]
    refine ⟨fun hd' p hx => ?_, fun t => ?_, by simp [setK, clr_len], rfl, fun _ => rfl, R.cb, fun k c' => ?_, by simp [setK, pputB_len], fun k => ?_, by simp, by simp only [fam, cellAt, hg], cat _ _⟩
    · cases hd' with
      | x j => exact absurd rfl (hx j)
      | s t =>
        rcases clr3 _ t p (.h i) rfl with h | ⟨h1, h2⟩
        · left; exact h
        · right; right
          refine ⟨?_, by simp, h2⟩
          simp only [fam, setK]; rw [h1]
      | b j => right; right; exact ⟨rfl, by simp, fun hb pb tp e => absurd e (R.nobor_b j p hb pb tp)⟩
      | h j =>
        by_cases hj : j = i
        · subst hj
          match p with
          | [] => left; rfl
          | _ :: _ :: _ => left; rfl
          | [c'] =>
            by_cases hcc : c' = c
            · subst hcc
              right; left
              refine ⟨rfl, rfl, ?_⟩
              simp only [fam, setK, hB, if_pos, cellAt, pget_put, hc, and_self]
            · right; right
              refine ⟨?_, by simp [hcc], fun hb pb tp e => absurd e (R.nobor_h j _ hb pb tp)⟩
              simp only [fam, setK, hB, if_pos, cellAt, pget_put, hcc, false_and, if_false]
        · right; right
          refine ⟨?_, by simp [hj], fun hb pb tp e => absurd e (R.nobor_h j p hb pb tp)⟩
          simp only [fam, setK, hB, if_neg hj]
    · simp only [setK, clr_get]; split
      · exact shp_undef _
      · exact R.sh t
    · simp only [setK, hB]; split
      · rw [pget_put]; split
        · exact hl
        · exact R.ch i c'
      · exact R.ch k c'
    · simp only [setK, hB]; split
      · rename_i h; rw [h, pput_len]
      · rfl
  | s t0 =>
    simp only [getK] at hg
    have hlt : t0 < st.sl.length := by
      rcases Nat.lt_or_ge t0 st.sl.length with h | h
      · exact h
      · rw [pget_ge _ _ h, fcell_undef] at hg; cases hg
    -- what the slot becomes
    have hset : (∃ cs, pget st.sl t0 = .agg cs ∧ c < cs.length ∧ (pget st.sl t0).setc [c] v = .agg (pput cs c v)) ∨ (c = 0 ∧ pget st.sl t0 = .sl qh eh ∧ (pget st.sl t0).setc [c] v = v) := by
      generalize pget st.sl t0 = w at hg
      cases w with
      | agg cs =>
        left
        refine ⟨cs, rfl, ?_, rfl⟩
        rcases Nat.lt_or_ge c cs.length with h | h
        · exact h
        · simp only [PV.fcell] at hg; rw [pget_ge _ _ h] at hg; cases hg
      | tup vs => cases hg
      | sl q es =>
        cases c with
        | zero => right; exact ⟨rfl, hg, rfl⟩
        | succ c => cases hg
      | _ => cases c <;> cases hg
    have hfc : ∀ p, ((pget st.sl t0).setc [c] v).fcell p = .fl .undef ∨ (p = [c] ∧ ((pget st.sl t0).setc [c] v).fcell p = v) ∨ (p ≠ [c] ∧ ((pget st.sl t0).setc [c] v).fcell p = (pget st.sl t0).fcell p) := by
      intro p
      rcases hset with ⟨cs, e1, e2, e3⟩ | ⟨rfl, e1, e2⟩
      · rw [e3, e1]
        match p with
        | [] => left; rfl
        | _ :: _ :: _ => left; rfl
        | [c'] =>
          by_cases hcc : c' = c
          · subst hcc; right; left; exact ⟨rfl, by simp [PV.fcell, pget_put, e2]⟩
          · right; right; exact ⟨by simp [hcc], by simp [PV.fcell, pget_put, hcc]⟩
      · rw [e2]
        have hvs : v.sc := by rcases hv with rfl | ⟨q, es, rfl⟩ <;> exact ⟨fun _ h => (by cases h), fun _ h => (by cases h)⟩
        match p with
        | [0] => right; left; exact ⟨rfl, fcell_scalar hvs.1 hvs.2⟩
        | [] => left; rcases hv with rfl | ⟨q, es, rfl⟩ <;> rfl
        | (_ + 1) :: _ => left; rcases hv with rfl | ⟨q, es, rfl⟩ <;> rfl
        | 0 :: _ :: _ => left; rcases hv with rfl | ⟨q, es, rfl⟩ <;> rfl
    have hshp : Shp ((pget st.sl t0).setc [c] v) (get us.sl t0) := by
      have := R.sh t0
      rcases hset with ⟨cs, e1, e2, e3⟩ | ⟨rfl, e1, e2⟩
      · rw [e3]; rw [e1] at this
        obtain ⟨ws, h1, h2⟩ := this
        exact ⟨ws, h1, by rw [pput_len]; exact h2⟩
      · rw [e2]; rw [e1] at this
        rcases hv with rfl | ⟨q, es, rfl⟩
        · exact shp_undef _
        · exact this
    refine ⟨fun hd' p hx => ?_, fun t => ?_, by simp [setK, clr_len, pput_len], rfl, fun _ => rfl, R.cb, R.ch, rfl, fun _ => rfl, by simp, by simp only [fam, hg], fun p => ?_⟩
    · cases hd' with
      | x j => exact absurd rfl (hx j)
      | b j => right; right; exact ⟨rfl, by simp, fun hb pb tp e => absurd e (R.nobor_b j p hb pb tp)⟩
      | h j => right; right; exact ⟨rfl, by simp, fun hb pb tp e => absurd e (R.nobor_h j p hb pb tp)⟩
      | s t =>
        simp only [fam, setK]
        rcases slot_put (st := st) (us := us) t0 ((pget st.sl t0).setc [c] v) t R.lsl (get us.sl t0) with h | ⟨rfl, h0, h1, h2, h3⟩ | ⟨h1, h2, h3, h4⟩
        · left; rw [h]; exact fcell_undef p
        · rw [h1]
          rcases hfc p with h | ⟨rfl, h⟩ | ⟨hp, h⟩
          · left; exact h
          · right; left; exact ⟨rfl, rfl, by rw [h]⟩
          · right; right
            refine ⟨by rw [h], fun hh => hp hh.2, fun hb pb tp e => ?_⟩
            rw [← h] at e
            exact bor_ne h3 e
        · rw [h1]
          by_cases htt : t = t0
          · subst htt; left; rw [pget_ge _ _ (by omega)]; exact fcell_undef p
          · right; right; exact ⟨rfl, fun hh => htt (by cases hh.1; rfl), fun hb pb tp e => bor_ne h3 e⟩
    · simp only [setK]
      exact slot_shp_put R.sh hshp t
    · simp only [fam]
      rcases hset with ⟨cs, e1, _, _⟩ | ⟨_, e1, _⟩
      · rw [e1]
        match p with
        | [c'] => exact .inr ⟨c', rfl⟩
        | [] => exact .inl rfl
        | _ :: _ :: _ => exact .inl rfl
      · rw [e1]
        match p with
        | [c'] => exact .inr ⟨c', rfl⟩
        | [] => exact .inl rfl
        | (_ + 1) :: _ :: _ => exact .inl rfl
        | 0 :: _ :: _ => exact .inl rfl
theorem RS.takeK (R : RS h0 ω0 ω ρ st us X) (hX : (∀ p, (X 0).1.fcell p = .fl .undef) ∧ ∀ j hd, (X j).1.bor hd = false) {hd : Hd} {c : Nat} {qh : Ql} {eh : List (List PV)} (hg : getK st hd [c] = .sl qh eh) (hq : qh.isOwn = true) (hu : (∀ ws, (fam ρ st us X hd [c]).2 ≠ .agg ws) ∧ ∀ ws, (fam ρ st us X hd [c]).2 ≠ .tup ws) :
    ∃ ω', RS h0 ω0 ω' ρ (setK st (.fl .undef) hd [c]) us (Xs X 0 (.sl qh eh) (fam ρ st us X hd [c]).2) ∧ ∀ l p, ω l = .own hd (c :: p) → ω' l = .own (.x 0) (0 :: p) := by
  obtain ⟨a1, a2, a3, a4, a5, a6, a7, a8, a9, a10, a11, a12⟩ := setK_spec (X' := Xs X 0 (.sl qh eh) (fam ρ st us X hd [c]).2) R hg (.inl rfl) rfl
  refine ⟨_, RS.ren R (Ren.seg_ok (a := hd) (o := c) (n := 1) (b := .x 0) (o' := 0) (a10 0)) (seg_hh (by simp)) (fun hd' p => ?_) rfl a2 (fun j => ?_) (by rw [a3]; exact R.lsl) (by rw [a4]; exact R.lbx) (fun i => by rw [a5]; exact R.lb i) a6 a7 a8 a9, fun l p e => ?_⟩
  · by_cases hxx : ∃ j, hd' = .x j
    · obtain ⟨j, rfl⟩ := hxx
      by_cases hj : j = 0
      · subst hj
        match p with
        | [] => exact .inr (undef_rc rfl)
        | (_ + 1) :: _ => exact .inr (undef_rc rfl)
        | 0 :: _ :: _ => exact .inr (undef_rc rfl)
        | [0] =>
          refine .inl ⟨hd, [c], ?_, fun _ r => ?_, fun hb pb tp e => ?_⟩
          · rw [a11]
            show (PV.sl qh eh, ((fam ρ st us X hd [c]).2).fcell [0]) = _
            rw [vfcell_scalar hu.1 hu.2]
          · simp only [List.cons_append, List.nil_append]
            rw [Ren.seg_mv (by omega) (by omega)]; simp
          · have e2 : (PV.sl qh eh).q = some (Ql.bor hb pb tp) := e
            cases qh <;> simp [PV.q] at e2 <;> cases hq
      · have hfx : fam ρ (setK st (.fl .undef) hd [c]) us (Xs X 0 (.sl qh eh) (fam ρ st us X hd [c]).2) (.x j) p = fam ρ st us X (.x j) p := by simp [fam, Xs, hj]
        refine .inl (moved_still hfx (fun _ => Ren.seg_still (fun h => a10 j h.symm) (by simpa using hj)) fun hb pb tp e hx => Ren.seg_still ?_ (hx 0))
        rw [hfx] at e
        exact bor_ne (hX.2 j hd) e
    · rcases a1 hd' p (fun i h => hxx ⟨i, h⟩) with h | ⟨h1, h2, h3⟩ | ⟨h1, h2, h3⟩
      · exact .inr (undef_rc h)
      · exact .inr (undef_rc (by rw [h3]))
      · rw [h1]
        refine .inl ⟨hd', p, rfl, fun hown r => ?_, fun hb pb tp e hx => ?_⟩
        · by_cases hh : hd' = hd
          · subst hh
            rcases a12 p with h | ⟨c', rfl⟩
            · rw [h] at hown; cases hown
            · have hcc : c' ≠ c := fun h => h2 ⟨rfl, by rw [h]⟩
              exact Ren.seg_rest_a (a10 0) (by omega) r
          · exact Ren.seg_still hh (fun h => hxx ⟨0, h⟩) _
        · have : (Ren.seg hd c 1 (.x 0) 0).still hb := Ren.seg_still (h3 hb pb tp e) (hx 0)
          exact ⟨fun _ => this, this.soft⟩
  · unfold Xs; split
    · exact ⟨hu.1, hu.2⟩
    · exact R.shx j
  · simp only [e, Ag.ren]
    rw [Ren.seg_mv (by omega) (by omega)]; simp
theorem RS.drop1 {v : PV} {u : V} {vy : PV} {uy : V} (R : RS h0 ω0 ω ρ st us (X2 v u vy uy)) : ∃ ω', RS h0 ω0 ω' ρ st us (X1 v u) := by
  refine ⟨_, RS.ren (st' := st) (us' := us) (X' := X1 v u) R (Ren.drop_ok (.x 1)) drop_hh (fun hd' p => ?_) rfl R.sh (fun i => ?_) R.lsl R.lbx R.lb R.cb R.ch rfl (fun _ => rfl)⟩
  · cases hd' with
    | x i =>
      by_cases hi : i = 0
      · subst hi
        exact .inl (moved_still rfl (fun _ => Ren.drop_still (by simp)) fun hb pb tp _ h => Ren.drop_still (h 1))
      · exact .inr (undef_rc (fam_x1 i hi p))
    | s t => exact .inl (moved_still rfl (fun _ => Ren.drop_still (by simp)) fun hb pb tp _ h => Ren.drop_still (h 1))
    | b t => exact .inl (moved_still rfl (fun _ => Ren.drop_still (by simp)) fun hb pb tp _ h => Ren.drop_still (h 1))
    | h t => exact .inl (moved_still rfl (fun _ => Ren.drop_still (by simp)) fun hb pb tp _ h => Ren.drop_still (h 1))
  · by_cases hi : i = 0
    · subst hi; exact R.shx 0
    · rw [X1_1 _ _ i hi]; exact shp_undef _
theorem RS.rehand {v v' : PV} {u u' : V} {vy : PV} {uy : V} (R : RS h0 ω0 ω ρ st us (X2 v u vy uy)) (hs : Shp v' u') (hr : ∀ p, RC us.hp ω (.at (.x 0) p) (v'.fcell p) (u'.fcell p)) (hx : ∀ p, nobx (v'.fcell p)) : RS h0 ω0 ω ρ st us (X2 v' u' vy uy) := by
  have := RS.ren (st' := st) (us' := us) (X' := X2 v' u' vy uy) R Ren.id_ok (fun hd p i q e => by simp [Ren.id] at e; exact e.1) (fun hd' p => ?_) rfl R.sh (fun i => ?_) R.lsl R.lbx R.lb R.cb R.ch rfl (fun _ => rfl)
  · rwa [ren_id] at this
  · cases hd' with
    | x i =>
      by_cases hi : i = 0
      · subst hi; refine .inr ?_; rw [ren_id]; exact ⟨hx p, hr p⟩
      · exact .inl (moved_id (by simp [fam, X2, Xs, hi]))
    | s t => exact .inl (moved_id rfl)
    | b t => exact .inl (moved_id rfl)
    | h t => exact .inl (moved_id rfl)
  · by_cases hi : i = 0
    · subst hi; exact hs
    · have := R.shx i
      simpa [X2, Xs, hi] using this
theorem sl_rehand {q : Ql} {es : List (List PV)} {H : Heap} {m : Md} {u : V} (r : RC H ω m (.sl q es) u) : Shp (.sl q es) u ∧ (∀ p, ((PV.sl q es).fcell p = .sl q es ∧ u.fcell p = u) ∨ (PV.sl q es).fcell p = .fl .undef) := by
  have hsc : (∀ us, u ≠ .agg us) ∧ ∀ us, u ≠ .tup us := by
    cases r <;> exact ⟨fun _ h => (by cases h), fun _ h => (by cases h)⟩
  refine ⟨hsc, fun p => ?_⟩
  match p with
  | [0] => exact .inl ⟨rfl, vfcell_scalar hsc.1 hsc.2⟩
  | [] => exact .inr rfl
  | (_ + 1) :: _ => exact .inr rfl
  | 0 :: _ :: _ => exact .inr rfl
theorem app_end {w : Nat} {es new : List (List PV)} {ycs : List V} {q0 qr : Ql} {u0 : V} {vy : PV} {uy : V} (R : RS h0 ω0 ω ρ st us (X2 (.sl q0 es) u0 vy uy)) (hN : NewCells us.hp ω vy w new ycs) (hw0 : 0 < w) (hroom : roomy ((es.length + new.length) * w))
    (hr : RC us.hp ω (.at (.x 0) [0]) (.sl q0 es) u0) (hq : q0 = .own ∨ q0 = .ownw w) (hw : ∀ e ∈ es, e.length = w) (hy : srcCells us.hp w uy = some (ycs, new.length)) (hqr : (0 < new.length → qr = .own) ∧ (new.length = 0 → qr = q0)) :
    ∃ ω' ur h', Ag.app us.hp w u0 uy = some (ur, h') ∧ RS h0 ω0 ω' ρ st { us with hp := h' } (X1 (.sl qr (es ++ new)) ur) := by
  by_cases hk : new.length = 0
  · have hnil : new = [] := List.eq_nil_of_length_eq_zero hk
    subst hnil
    obtain ⟨ω', h⟩ := R.drop1
    refine ⟨ω', u0, us.hp, ?_, by rw [hqr.2 rfl, List.append_nil]; exact h⟩
    simp only [Ag.app, hy, List.length_nil]
    cases hr <;> simp
  · rw [hqr.1 (by omega)]
    refine R.appK hN (by omega) hw0 hroom ?_ hy
    cases hr with
    | nil => exact .inl ⟨rfl, rfl⟩
    | sl _ _ _ l o n b h1 hkd hc hne hn hw' hle hr =>
      subst hn
      refine .inr ⟨q0, l, b, rfl, ?_⟩
      have hlab : ω l = .own (.x 0) [0] ∧ o = 0 ∧ b.k = .own ∧ b.w = w := by
        rcases hq with rfl | rfl
        · obtain ⟨c1, c2, c3⟩ := hc
          obtain ⟨e0, he0⟩ := List.exists_mem_of_ne_nil _ (hne rfl (.inl rfl))
          exact ⟨c1, c2, c3, by rw [← hw' e0 he0]; exact hw e0 he0⟩
        · obtain ⟨c1, c2, c3, c4⟩ := hc
          exact ⟨c1, c2, c3, c4⟩
      obtain ⟨c1, rfl, c3, c4⟩ := hlab
      rw [c4] at hle hr
      refine ⟨rfl, h1, c3, c4, c1, by omega, hw, fun k hk => ?_⟩
      have := hr k hk
      rw [Nat.zero_add] at this
      rcases hq with rfl | rfl <;> exact this
theorem mvOut_sl {x : Opnd} {q : Ql} {es : List (List PV)} (hx : x.pev st.sl = .sl q es) (hq : q.isOwn = true) : (Ag.mvOut x st).1 = .sl q es := by
  cases x with
  | c v => exact hx
  | t n =>
    simp only [Opnd.pev] at hx
    have : (PV.sl q es).own = true ∧ (PV.sl q es).bor (.s n) = false := by cases q <;> first | exact ⟨rfl, rfl⟩ | cases hq
    simp only [Ag.mvOut, hx, mvS, this.1, this.2, if_true, Bool.false_eq_true, if_false]
theorem x2_bor {v : PV} {u : V} (hv : ∀ hd, v.bor hd = false) (j : Nat) (hd : Hd) : (Xs X0 1 v u j).1.bor hd = false := by
  unfold Xs; split
  · exact hv hd
  · rfl
theorem o_app (R : RS h0 ω0 ω ρ st us X0) {w : Nat} {x y : Opnd} {v : PV} (e : (match p_src w y st with | some (new, st) => p_app w x new st | none => none) = some (v, st1)) : Out2 (.app w x y) us h0 ω0 v st1 := by
  split at e
  · rename_i new st' hsrc
    have hw0 : 0 < w := by
      unfold p_app at e
      repeat' split at e
      all_goals first | (cases e; done) | (rename_i h; exact h.1) | (rename_i h _; exact h.1)
    obtain ⟨ω1, vy, ycs, R1, hvb, hN, hy⟩ := src_sound R hw0 hsrc
    have fin : ∀ {ω2 : Nat → W} {st2 : PS} {q0 qr : Ql} {es : List (List PV)}, RS h0 ω0 ω2 ρ st2 us (X2 (.sl q0 es) (x.ev us.sl) vy (y.ev us.sl)) → NewCells us.hp ω2 vy w new ycs → roomy ((es.length + new.length) * w) → RC us.hp ω2 (.at (.x 0) [0]) (.sl q0 es) (x.ev us.sl) → (q0 = .own ∨ q0 = .ownw w) → (∀ e ∈ es, e.length = w) →
        ((0 < new.length → qr = .own) ∧ (new.length = 0 → qr = q0)) → Out2 (.app w x y) us h0 ω0 (.sl qr (es ++ new)) st2 := by
      intro ω2 st2 q0 qr es R2 hN2 hroom hr hq hw hqr
      obtain ⟨ω', ur, h', e1, e2⟩ := app_end R2 hN2 hw0 hroom hr hq hw hy hqr
      exact ⟨ur, us.bx, h', ω', ρ, by simp only [stepV]; rw [if_pos hw0, e1]; rfl, e2⟩
    -- what is new reads as before
    have hNre : ∀ {ω2 : Nat → W} {st2 : PS} {v0 : PV} {u0 : V}, RS h0 ω0 ω2 ρ st2 us (X2 v0 u0 vy (y.ev us.sl)) → NewCells us.hp ω2 vy w new ycs := by
      intro ω2 st2 v0 u0 R2
      obtain ⟨a, b, c⟩ := hN
      refine ⟨a, b, c.imp (fun ⟨hv, _⟩ => ⟨hv, fun k hk => ?_⟩) id⟩
      subst hv
      have r := R2.core.rc (.x 1) [0]
      have hs : Shp (.sl .own new) (y.ev us.sl) := R2.shx 1
      have r' : RC us.hp ω2 (.at (.x 1) [0]) (.sl .own new) (y.ev us.sl) := by
        have : RC us.hp ω2 (.at (.x 1) [0]) (.sl .own new) ((y.ev us.sl).fcell [0]) := r
        rwa [vfcell_scalar hs.1 hs.2] at this
      generalize y.ev us.sl = u at r' hy
      cases r' with
      | nil => simp at hk
      | sl _ _ _ l o n b' h1 hkd hc hne hn hw hle hr =>
        subst hn
        obtain ⟨e0, he0⟩ := List.exists_mem_of_ne_nil _ (hne rfl (.inl rfl))
        have hbw : b'.w = w := by rw [← hw e0 he0]; exact a e0 he0
        rw [hbw] at hle hr
        simp only [srcCells, rd, h1] at hy
        rw [if_pos ⟨hkd, hle⟩] at hy
        simp only [Option.map_some, Option.some.injEq, Prod.mk.injEq] at hy
        have r := hr k hk
        rw [← hy.1, seg_get, if_pos hk]
        exact r
    have rc0 : ∀ {ω2 : Nat → W} {st2 : PS} {q : Ql} {es : List (List PV)} {u0 : V}, RS h0 ω0 ω2 ρ st2 us (X2 (.sl q es) u0 vy (y.ev us.sl)) → RC us.hp ω2 (.at (.x 0) [0]) (.sl q es) u0 := by
      intro ω2 st2 q es u0 R2
      have hs : Shp (.sl q es) u0 := R2.shx 0
      have : RC us.hp ω2 (.at (.x 0) [0]) (.sl q es) (u0.fcell [0]) := R2.core.rc (.x 0) [0]
      rwa [vfcell_scalar hs.1 hs.2] at this
    -- the slot's own slice
    have slot : ∀ {q : Ql} {es : List (List PV)}, x.pev st'.sl = .sl q es → q.isOwn = true → ∃ ω2, RS h0 ω0 ω2 ρ (Ag.mvOut x st').2 us (X2 (.sl q es) (x.ev us.sl) vy (y.ev us.sl)) := by
      intro q es hx hq
      obtain ⟨ω2, R2⟩ := R1.mvOut x 0 (fun p => fcell_undef p) (fun n j => x2_bor hvb j _)
      rw [mvOut_sl hx hq] at R2
      exact ⟨ω2, R2⟩
    -- a holder's own slice
    have held : ∀ {hd : Hd} {c : Nat} {qh : Ql} {eh : List (List PV)}, getK st' hd [c] = .sl qh eh → qh.isOwn = true → ∃ ω2 uh, RS h0 ω0 ω2 ρ (setK st' (.fl .undef) hd [c]) us (X2 (.sl qh eh) uh vy (y.ev us.sl)) ∧ RC us.hp ω1 (.at hd [c]) (.sl qh eh) uh ∧ ∀ l p, ω1 l = .own hd (c :: p) → ω2 l = .own (.x 0) (0 :: p) := by
      intro hd c qh eh hg hq
      obtain ⟨_, _, _, _, _, _, _, _, _, _, a11, _⟩ := setK_spec (X' := X0) (v := .fl .undef) R1 hg (.inl rfl) rfl
      have r := R1.core.rc hd [c]
      rw [a11] at r
      have hu : (∀ ws, (fam ρ st' us (Xs X0 1 vy (y.ev us.sl)) hd [c]).2 ≠ .agg ws) ∧ ∀ ws, (fam ρ st' us (Xs X0 1 vy (y.ev us.sl)) hd [c]).2 ≠ .tup ws := r.scalar (fun a h => by cases h)
      obtain ⟨ω2, R2, h2⟩ := R1.takeK ⟨fun p => fcell_undef p, fun j hd => x2_bor hvb j hd⟩ hg hq hu
      exact ⟨ω2, _, R2, r, h2⟩
    have preK : ∀ {hd : Hd} {c : Nat} {es eh : List (List PV)} {qh : Ql}, qh.isOwn = true → (qh = .own ∨ qh = .ownw w) → x.pev st'.sl = .sl (.pre hd [c]) es → getK st' hd [c] = .sl qh eh → allW w eh = true → 0 < eh.length → es.length ≤ eh.length → roomy ((es.length + new.length) * w) →
        Out2 (.app w x y) us h0 ω0 (.sl (if es.length + new.length = 0 then .ownw w else .own) (eh.take es.length ++ new)) (setK st' (.fl .undef) hd [c]) := by
      intro hd c es eh qh hqo hqq hx hg c2 c3 c4 c5
      obtain ⟨ω2, uh, R2, rh, hlab⟩ := held hg hqo
      have hwh := (allW_iff w eh).1 c2
      have htl : (eh.take es.length).length = es.length := by simp; omega
      -- the first hand, cut to the view
      have cut : RC us.hp ω2 (.at (.x 0) [0]) (.sl (if es.length = 0 then .ownw w else .own) (eh.take es.length)) (x.ev us.sl) := by
        obtain ⟨hdx, _, rx⟩ := R1.ev_one hx (fun _ h => (by cases h)) (fun _ h => (by cases h)) (fun _ h => (by cases h))
        have r2 := rc0 R2
        generalize x.ev us.sl = u at rx
        cases rx with
        | nil => exact .nil _ _
        | sl _ _ _ l o n b h1 hk hc hne hn hw hle hr =>
          obtain ⟨hl, rfl⟩ := hc
          cases r2 with
          | nil => simp at c3
          | sl _ _ _ l' o' n' b' h1' hk' hc' hne' hn' hw' hle' hr' =>
            have hl2 := hlab l [] hl
            have hll : l' = l := R2.core.inj l' l (.x 0) [0] (by rcases hqq with rfl | rfl; exact hc'.1; exact hc'.1) hl2
            subst hll
            rw [h1] at h1'; cases h1'
            have hbw : b.w = w := by
              obtain ⟨e0, he0⟩ := List.exists_mem_of_ne_nil eh (by rintro rfl; simp at c3)
              rw [← hw' e0 he0]; exact hwh e0 he0
            have hc2 : ω2 l' = .own (.x 0) [0] ∧ o' = 0 ∧ b.k = .own := by rcases hqq with rfl | rfl; exact hc'; exact ⟨hc'.1, hc'.2.1, hc'.2.2.1⟩
            obtain ⟨g1, rfl, g3⟩ := hc2
            subst hn
            have hmul : es.length * b.w ≤ eh.length * b.w := Nat.mul_le_mul_right _ c4
            have hcells : ∀ k, k < (eh.take es.length).length * b.w → RC us.hp ω2 (.inn (.x 0) ([0] ++ [k])) (pget (eh.take es.length).flatten k) (get b.cs (0 + k)) := by
              intro k hk
              rw [htl] at hk
              have hb0 : 0 < b.w := by rw [hbw]; exact hw0
              have e1 := flat_get (w := b.w) (es := eh.take es.length) (fun e he => hw' e (List.mem_of_mem_take he)) (k / b.w) (k % b.w) (Nat.mod_lt _ hb0)
              have e2 := flat_get (w := b.w) hw' (k / b.w) (k % b.w) (Nat.mod_lt _ hb0)
              have hd1 : k / b.w * b.w + k % b.w = k := by rw [Nat.mul_comm]; exact Nat.div_add_mod k b.w
              rw [hd1] at e1 e2
              rw [e1, elt_eq, List.getElem?_take_of_lt ((Nat.div_lt_iff_lt_mul hb0).2 hk), ← elt_eq, ← e2]
              have := hr' k (by omega)
              rcases hqq with rfl | rfl <;> exact this
            by_cases hz : es.length = 0
            · rw [if_pos hz]
              exact RC.sl _ (.ownw w) _ l' 0 _ b h1 hk ⟨g1, rfl, g3, hbw⟩ (fun _ h => by simp at h) htl.symm (fun e he => hw' e (List.mem_of_mem_take he)) (by rw [htl]; omega) hcells
            · rw [if_neg hz]
              exact RC.sl _ .own _ l' 0 _ b h1 hk ⟨g1, rfl, g3⟩ (fun _ _ h => by rw [h] at htl; simp at htl; omega) htl.symm (fun e he => hw' e (List.mem_of_mem_take he)) (by rw [htl]; omega) hcells
      obtain ⟨s1, s2⟩ := sl_rehand cut
      have R3 := R2.rehand (v' := .sl (if es.length = 0 then .ownw w else .own) (eh.take es.length)) (u' := x.ev us.sl) s1 (fun p => by
        rcases s2 p with ⟨e1, e2⟩ | e1
        · rw [e1, e2]
          match p, e1 with
          | [0], _ => exact cut
          | [], e1 => cases e1
          | (_ + 1) :: _, e1 => cases e1
          | 0 :: _ :: _, e1 => cases e1
        · rw [e1]; exact .undef _ _) (fun p => by
        rcases s2 p with ⟨e1, e2⟩ | e1
        · rw [e1]; intro i pb tp h; split at h <;> simp [PV.q] at h
        · rw [e1]; exact fun i pb tp => by simp [PV.q])
      refine fin R3 (hNre R3) (by rw [htl]; exact c5) cut (by split; exact .inr rfl; exact .inl rfl) (fun e he => hwh e (List.mem_of_mem_take he)) ⟨fun h => by rw [if_neg (by omega)], fun h => ?_⟩
      simp only [h, Nat.add_zero]
    unfold p_app at e
    split at e
    · rename_i es hx
      split at e
      · rename_i hc
        obtain ⟨_, c2, c3⟩ := hc
        cases e
        obtain ⟨ω2, R2⟩ := slot hx rfl
        exact fin R2 (hNre R2) c3 (rc0 R2) (.inl rfl) ((allW_iff w es).1 c2) ⟨fun _ => rfl, fun _ => rfl⟩
      · cases e
    · rename_i w' es hx
      split at e
      · rename_i hc
        obtain ⟨_, rfl, c2, c3⟩ := hc
        cases e
        obtain ⟨ω2, R2⟩ := slot hx rfl
        exact fin (qr := if new.length = 0 then .ownw w' else .own) R2 (hNre R2) c3 (rc0 R2) (.inr rfl) ((allW_iff w' es).1 c2) ⟨fun h => by rw [if_neg (by omega)], fun h => by rw [if_pos h]⟩
      · cases e
    · rename_i hd c es hx
      split at e
      · rename_i eh hg
        split at e
        · rename_i hc
          obtain ⟨_, c2, c3, c4⟩ := hc
          cases e
          obtain ⟨ω2, uh, R2, rh, hlab⟩ := held hg rfl
          -- the view and the holder's slice are one
          have hu : uh = x.ev us.sl := by
            obtain ⟨hdx, _, rx⟩ := R1.ev_one hx (fun _ h => (by cases h)) (fun _ h => (by cases h)) (fun _ h => (by cases h))
            generalize x.ev us.sl = u at rx
            cases rx with
            | nil =>
              have : eh = [] := List.eq_nil_of_length_eq_zero (by rw [← c3]; rfl)
              subst this
              cases rh with
              | nil => rfl
              | sl _ _ _ l o n b h1 hk hc hne hn hw hle hr => exact absurd rfl (hne rfl (.inl rfl))
            | sl _ _ _ l o n b h1 hk hc hne hn hw hle hr =>
              have hes := hne rfl (.inr ⟨hd, [c], rfl⟩)
              have heh : eh ≠ [] := by rintro rfl; exact hes (List.eq_nil_of_length_eq_zero c3)
              obtain ⟨_, hc2⟩ := hc
              obtain ⟨hl, ho⟩ := hc2 rfl
              cases rh with
              | nil => exact absurd rfl heh
              | sl _ _ _ l' o' n' b' h1' hk' hc' hne' hn' hw' hle' hr' =>
                rw [R1.core.inj l' l hd [c] hc'.1 hl, hc'.2.1, ho, hn', hn, c3]
          subst hu
          exact fin R2 (hNre R2) c4 (rc0 R2) (.inl rfl) ((allW_iff w eh).1 c2) ⟨fun _ => rfl, fun _ => rfl⟩
        · cases e
      · cases e
    · rename_i hd c es hx
      split at e
      · rename_i eh hg
        split at e
        · rename_i hc
          obtain ⟨_, c2, c3, c4, c5⟩ := hc
          cases e
          exact preK rfl (.inl rfl) hx hg c2 c3 c4 c5
        · cases e
      · rename_i w' eh hg
        split at e
        · rename_i hc
          obtain ⟨_, rfl, c2, c3, c4, c5⟩ := hc
          cases e
          exact preK rfl (.inr rfl) hx hg c2 c3 c4 c5
        · cases e
      · cases e
    · cases e
  · cases e
end
def Ren.segD (hd : Hd) (p s n : Nat) : Ren := fun hd' q => match q with
  | [] => .own hd' []
  | c :: r => if hd' = .x 0 ∧ c < n then .own hd (p :: (s + c) :: r) else if hd' = hd ∧ c = p then (match r with
    | [] => .own hd' [c]
    | k :: r' => if s ≤ k ∧ k < s + n then .frz else .own hd' (c :: k :: r')) else .own hd' (c :: r)
theorem Ren.segD_ok {hd : Hd} {p s n : Nat} (hx : hd ≠ .x 0) : (Ren.segD hd p s n).Ok := by
  have cl : ∀ (a : Hd) (q : List Nat), (∃ c r, a = .x 0 ∧ q = c :: r ∧ c < n ∧ Ren.segD hd p s n a q = .own hd (p :: (s + c) :: r)) ∨ Ren.segD hd p s n a q = .frz ∨ (Ren.segD hd p s n a q = .own a q ∧ ∀ c r, ¬ (a = hd ∧ q = p :: (s + c) :: r ∧ c < n)) := by
    intro a q
    match q with
    | [] => exact .inr (.inr ⟨rfl, fun c r h => by cases h.2.1⟩)
    | c :: r =>
      by_cases h1 : a = .x 0 ∧ c < n
      · exact .inl ⟨c, r, h1.1, rfl, h1.2, by simp only [Ren.segD]; rw [if_pos h1]⟩
      · by_cases h2 : a = hd ∧ c = p
        · match r with
          | [] => exact .inr (.inr ⟨by simp only [Ren.segD]; rw [if_neg h1, if_pos h2], fun c' r' h => by cases h.2.1⟩)
          | k :: r' =>
            by_cases h3 : s ≤ k ∧ k < s + n
            · exact .inr (.inl (by simp only [Ren.segD]; rw [if_neg h1, if_pos h2, if_pos h3]))
            · refine .inr (.inr ⟨by simp only [Ren.segD]; rw [if_neg h1, if_pos h2, if_neg h3], fun c' r'' h => ?_⟩)
              obtain ⟨_, e, hlt⟩ := h
              simp at e; omega
        · refine .inr (.inr ⟨by simp only [Ren.segD]; rw [if_neg h1, if_neg h2], fun c' r'' h => ?_⟩)
          obtain ⟨e1, e, _⟩ := h
          simp at e; exact h2 ⟨e1, e.1⟩
  refine ⟨fun a q a' q' x c e e' => ?_, fun a q => ?_⟩
  · rcases cl a q with ⟨c1, r1, rfl, rfl, hc1, h1⟩ | h1 | ⟨h1, n1⟩
    · rw [h1] at e; cases e
      rcases cl a' q' with ⟨c2, r2, rfl, rfl, hc2, h2⟩ | h2 | ⟨h2, n2⟩
      · rw [h2] at e'; simp at e'; exact ⟨rfl, by rw [e'.1, e'.2]⟩
      · rw [h2] at e'; cases e'
      · rw [h2] at e'; cases e'; exact absurd ⟨rfl, rfl, hc1⟩ (n2 c1 r1)
    · rw [h1] at e; cases e
    · rw [h1] at e; cases e
      rcases cl a' q' with ⟨c2, r2, rfl, rfl, hc2, h2⟩ | h2 | ⟨h2, n2⟩
      · rw [h2] at e'; cases e'; exact absurd ⟨rfl, rfl, hc2⟩ (n1 c2 r2)
      · rw [h2] at e'; cases e'
      · rw [h2] at e'; cases e'; exact ⟨rfl, rfl⟩
  · rcases cl a q with ⟨c1, r1, _, _, _, h1⟩ | h1 | ⟨h1, _⟩
    · exact .inr ⟨_, _, h1⟩
    · exact .inl h1
    · exact .inr ⟨_, _, h1⟩
theorem Ren.segD_still {hd : Hd} {p s n : Nat} {c : Hd} (h1 : c ≠ hd) (h2 : c ≠ .x 0) : (Ren.segD hd p s n).still c := fun q => by
  match q with
  | [] => rfl
  | c' :: r => simp only [Ren.segD]; rw [if_neg (fun h => h2 h.1), if_neg (fun h => h1 h.1)]
theorem Ren.segD_mv {hd : Hd} {p s n c : Nat} (hc : c < n) (r : List Nat) : Ren.segD hd p s n (.x 0) (c :: r) = .own hd (p :: (s + c) :: r) := by
  simp only [Ren.segD]; rw [if_pos ⟨trivial, hc⟩]
theorem Ren.segD_oth {hd : Hd} {p s n c : Nat} (hx : hd ≠ .x 0) (hc : c ≠ p) (r : List Nat) : Ren.segD hd p s n hd (c :: r) = .own hd (c :: r) := by
  simp only [Ren.segD]; rw [if_neg (fun h => hx h.1), if_neg (fun h => hc h.2)]
theorem Ren.segD_in {hd : Hd} {p s n k : Nat} (hx : hd ≠ .x 0) (hk : ¬ (s ≤ k ∧ k < s + n)) (r : List Nat) : Ren.segD hd p s n hd (p :: k :: r) = .own hd (p :: k :: r) := by
  simp only [Ren.segD]; rw [if_neg (fun h => hx h.1), if_pos ⟨trivial, trivial⟩, if_neg hk]
theorem Ren.segD_top {hd : Hd} {p s n : Nat} (hx : hd ≠ .x 0) : Ren.segD hd p s n hd [p] = .own hd [p] := by
  simp only [Ren.segD]; rw [if_neg (fun h => hx h.1), if_pos ⟨trivial, trivial⟩]
theorem segD_hh {hd : Hd} {p s n : Nat} (a : Hd) (q : List Nat) (i : Nat) (r : List Nat) (e : Ren.segD hd p s n a q = .own (.h i) r) : a = .h i ∨ hd = .h i := by
  match q with
  | [] => cases e; exact .inl rfl
  | c :: r' =>
    simp only [Ren.segD] at e
    split at e
    · cases e; exact .inr rfl
    · split at e
      · split at e
        · cases e; exact .inl rfl
        · split at e
          · cases e
          · cases e; exact .inl rfl
      · cases e; exact .inl rfl
theorem eput_len (es : List (List PV)) (j : Nat) (e : List PV) : (eput es j e).length = es.length := by
  induction es generalizing j with
  | nil => rfl
  | cons x r ih => cases j with
    | zero => rfl
    | succ j => simp [eput, ih]
theorem elt_eput (es : List (List PV)) (j k : Nat) (e : List PV) : elt (eput es j e) k = if k = j ∧ j < es.length then e else elt es k := by
  induction es generalizing j k with
  | nil => simp [eput, elt]
  | cons x r ih => cases j with
    | zero => cases k with
      | zero => simp [eput, elt]
      | succ k => simp [eput, elt]
    | succ j => cases k with
      | zero => simp [eput, elt]
      | succ k => simp only [eput, elt, ih, List.length_cons]; congr 1; simp
theorem eput_w {w : Nat} {es : List (List PV)} (hw : ∀ e ∈ es, e.length = w) {j : Nat} {e : List PV} (he : e.length = w) : ∀ x ∈ eput es j e, x.length = w := by
  induction es generalizing j with
  | nil => simp [eput]
  | cons x r ih => cases j with
    | zero => simp only [eput, List.mem_cons]; rintro y (rfl | h); exact he; exact hw y (by simp [h])
    | succ j => simp only [eput, List.mem_cons]; rintro y (rfl | h); exact hw y (by simp); exact ih (fun e h => hw e (by simp [h])) y h
section
variable {h0 : Heap} {ω0 ω : Nat → W} {ρ ρ' : Nat → Nat} {st st' st1 : PS} {us us' : St} {X X' : Hands}
theorem RS.rent (R : RS h0 ω0 ω ρ st us X) {f : Ren} (hf : f.Ok) (hh : ∀ l a q i r, ω l = .own a q → f a q = .own (.h i) r → i < st'.hp.length) {l0 : Nat} {hd0 : Hd} {p0 : List Nat} (hl0 : ω l0 = .own hd0 p0)
    (ht : ∀ l, l ≠ l0 → us'.hp[l]? = us.hp[l]?) (hk : ∃ b, us'.hp[l0]? = some b ∧ b.k = .own) (hlen : us'.hp.length = us.hp.length)
    (hA : ∀ hd p, MovedT f ω (fun l => l == l0) (fam ρ st us X) (fam ρ st' us' X' hd p) hd p ∨ nobx (fam ρ st' us' X' hd p).1 ∧ RC us'.hp (fun l => Ag.ren f (ω l)) (.at hd p) (fam ρ st' us' X' hd p).1 (fam ρ st' us' X' hd p).2)
    (hs : ∀ t, Shp (pget st'.sl t) (get us'.sl t)) (hx : ∀ i, Shp (X' i).1 (X' i).2) (l1 : st'.sl.length = us'.sl.length) (l2 : st'.bx.length = us'.bx.length)
    (l3 : ∀ i, (pgetB st'.bx i).length = (getB us'.bx i).length) (c1 : ∀ i c, (pget (pgetB st'.bx i) c).lay = true) (c2 : ∀ i c, (pget (pgetB st'.hp i) c).lay = true)
    (l4 : st'.hp.length = st.hp.length) (l5 : ∀ i, i < st.hp.length → (blkcs us'.hp (ρ i)).length = (pgetB st'.hp i).length) : RS h0 ω0 (fun l => Ag.ren f (ω l)) ρ st' us' X' := by
  have t : Tr us.hp ω us'.hp (fun l => Ag.ren f (ω l)) f (fun l => (l == l0) = true) :=
    ⟨fun l e => ⟨by simp [e, Ag.ren], ht l (by rintro rfl; rw [hl0] at e; cases e)⟩, fun l hd p e hn => ⟨by simp [e, Ag.ren], ht l (by simpa using hn)⟩, fun l i e => by simp [e, Ag.ren]⟩
  have c := R.core
  refine ⟨⟨fun hd p => ?_, fun l l' hd p e e' => ?_, fun l l' i e e' => c.injp l l' i (ren_ptr hf e) (ren_ptr hf e'), fun l e => ?_, fun l e => ?_⟩, hs, hx, l1, l2, l3, c1, c2, fun i hi => ?_, fun l i e => ?_, fun l i p e => ?_, ?_, fun hd p i pb tp => ?_⟩
  · rcases hA hd p with ⟨a, b, e, ho, hb⟩ | h
    · have hnx := R.nx a b
      rw [e] at ho hb ⊢
      exact (R.core.rc a b).tr t (fun e' => ⟨fun l r h => by simp [(ho e').1 l r h], (ho e').2⟩) (fun hb' pb tp e' => by
        obtain ⟨x, y, z⟩ := hb hb' pb tp e' (fun i h => by subst h; exact hnx i pb tp e')
        exact ⟨fun l q h => by simp [x l q h], y, z⟩)
    · exact h.2
  · obtain ⟨a, q, e1, e2⟩ := ren_own e
    obtain ⟨a', q', e1', e2'⟩ := ren_own e'
    obtain ⟨rfl, rfl⟩ := hf.inj a q a' q' hd p e2 e2'
    exact c.inj l l' a q e1 e1'
  · by_cases hl : l = l0
    · subst hl; exact hk
    · have : (∃ hd p, ω l = .own hd p) ∨ ∃ i, ω l = .ptr i := by
        rcases e with ⟨hd, p, e⟩ | ⟨i, e⟩
        · obtain ⟨x, q, e1, _⟩ := ren_own e; exact .inl ⟨x, q, e1⟩
        · exact .inr ⟨i, ren_ptr hf e⟩
      obtain ⟨b', h1', h2'⟩ := R.core.kind l this
      exact ⟨b', by rw [ht l hl]; exact h1', h2'⟩
  · rw [hlen]
    exact c.notNone l (by intro h; rw [h] at e; cases e)
  · rw [l4] at hi
    exact ⟨by simp [(R.hp i hi).1, Ag.ren], l5 i hi⟩
  · rw [l4]; exact R.bdp l i (ren_ptr hf e)
  · obtain ⟨a, q, e1, e2⟩ := ren_own e
    exact hh l a q i p e1 e2
  · have F := R.fr.ren f
    refine ⟨by rw [hlen]; exact F.len, fun l hl e => ?_, F.new, F.ptr⟩
    obtain ⟨a, b⟩ := F.old l hl e
    refine ⟨?_, b⟩
    rw [ht l, a]
    rintro rfl
    obtain ⟨_, b'⟩ := R.fr.old l hl e
    rw [hl0] at b'
    rcases e with e | e <;> rw [e] at b' <;> cases b'
  · rcases hA hd p with ⟨a, b, e, _⟩ | h
    · rw [e]; exact R.nx a b i pb tp
    · exact h.1 i pb tp
theorem RC.lay_inn {H : Heap} {hd : Hd} {p : List Nat} {v : PV} {u : V} (r : RC H ω (.at hd p) v u) (hlay : v.lay = true) : RC H ω (.inn hd p) v u := by
  cases r with
  | undef => exact .undef _ _
  | v _ _ hx => exact .v _ _ hx
  | nil => exact .nil _ _
  | sl _ q es' l o n b h1 hk hc hne hn hw hle hr =>
    cases q with
    | bor => simp [PV.lay] at hlay
    | pre => simp [PV.lay] at hlay
    | frz => exact .sl _ _ _ _ _ _ b h1 hk hc hne hn hw hle hr
    | own => exact .sl _ _ _ _ _ _ b h1 hk hc hne hn hw hle hr
    | ownw => exact .sl _ _ _ _ _ _ b h1 hk hc hne hn hw hle hr
  | ep => simp [PV.lay] at hlay
  | box => simp [PV.lay] at hlay
  | ptr => simp [PV.lay] at hlay
theorem eput_flat {w : Nat} {es : List (List PV)} (hw : ∀ e ∈ es, e.length = w) {j o : Nat} {vs : List PV} (hj : j < es.length) (hle : o + vs.length ≤ w) (k : Nat) (hk : k < es.length * w) :
    pget (eput es j (psplice (elt es j) o vs)).flatten k = if j * w + o ≤ k ∧ k < j * w + o + vs.length then pget vs (k - (j * w + o)) else pget es.flatten k := by
  have hw0 : 0 < w := by rcases Nat.eq_zero_or_pos w with h | h; (· rw [h] at hk; simp at hk); (· exact h)
  have hel := elt_len hw hj
  have e1 := flat_get (w := w) (eput_w (j := j) (e := psplice (elt es j) o vs) hw (by rw [psplice_len]; exact hel)) (k / w) (k % w) (Nat.mod_lt _ hw0)
  have e2 := flat_get (w := w) hw (k / w) (k % w) (Nat.mod_lt _ hw0)
  have hd1 : k / w * w + k % w = k := by rw [Nat.mul_comm]; exact Nat.div_add_mod k w
  rw [hd1] at e1 e2
  have hm := Nat.mod_lt k hw0
  rw [e1, elt_eput]
  by_cases hkj : k / w = j
  · rw [if_pos ⟨hkj, hj⟩, psplice_get _ _ _ _ (by omega), ← hkj]
    have : (o ≤ k % w ∧ k % w < o + vs.length) ↔ (k / w * w + o ≤ k ∧ k < k / w * w + o + vs.length) := by omega
    by_cases hc : o ≤ k % w ∧ k % w < o + vs.length
    · rw [if_pos hc, if_pos (this.1 hc)]; congr 1; omega
    · rw [if_neg hc, if_neg (fun h => hc (this.2 h)), e2]
  · rw [if_neg (fun h => hkj h.1), ← e2, if_neg]
    rintro ⟨h1, h2⟩
    apply hkj
    have h3 : k < (j + 1) * w := by rw [Nat.add_mul]; omega
    have h4 : j ≤ k / w := (Nat.le_div_iff_mul_le hw0).2 (by omega)
    have h5 : k / w < j + 1 := (Nat.div_lt_iff_lt_mul hw0).2 h3
    omega
theorem o_storeHe (R : RS h0 ω0 ω ρ st us X0) {n : Nat} {a x : Opnd} {v w : PV} {s : PS} {hd : Hd} {p : Nat} {esa es : List (List PV)} {j o : Nat} (emo : Ag.mvOut x st = (w, s)) (hx : a.pev s.sl = .ep (.bor hd [p] true) esa j o) (hg : getK s hd [p] = .sl .own es)
    (e : (if j < es.length ∧ w.cells.length = n ∧ o + n ≤ (elt es j).length ∧ cellL w.cells = true then some (PV.fl V.undef, setK s (.sl .own (eput es j (psplice (elt es j) o w.cells))) hd [p]) else none) = some (v, st1)) : Out2 (.storeH n a x) us h0 ω0 v st1 := by
  obtain ⟨ω1, R1⟩ := R.mv0 x
  rw [emo] at R1
  simp only at R1
  split at e
  · rename_i hcnd
    obtain ⟨c1, c2, c3, c4⟩ := hcnd
    cases e
    subst c2
    obtain ⟨k1, k2, k3, k4⟩ := R1.hand_cells (i := 0) (v := w) (u := x.ev us.sl) rfl c4
    obtain ⟨a1, a2, a3, a4, a5, a6, a7, a8, a9, a10, a11, a12⟩ := setK_spec (X' := X0) (v := .sl .own (eput es j (psplice (elt es j) o w.cells))) R1 hg (.inr ⟨_, _, rfl⟩) rfl
    have rh := R1.core.rc hd [p]
    rw [a11] at rh
    simp only at rh
    generalize hfu : (fam ρ s us (X1 w (x.ev us.sl)) hd [p]).2 = uh at rh a1 a11
    obtain ⟨hdx, _, rx⟩ := R1.ev_one hx (fun _ h => (by cases h)) (fun _ h => (by cases h)) (fun _ h => (by cases h))
    generalize hau : a.ev us.sl = ua at rx
    cases rx with
    | ep _ _ _ _ _ l o1 pp b h1 hk hq hc hw hle hr hp =>
      obtain ⟨hl, rfl⟩ := hc.2 rfl
      cases rh with
      | nil => simp at c1
      | sl _ _ _ l' o' n' b' h1' hk' hc' hne' hn' hw' hle' hr' =>
        have hll : l' = l := R1.core.inj l' l hd [p] hc'.1 hl
        subst hll
        rw [h1] at h1'; cases h1'
        obtain ⟨_, rfl, hbk⟩ := hc'
        subst hn'
        have hel := elt_len hw' c1
        rw [hel] at c3
        have hjw : (j + 1) * b.w ≤ es.length * b.w := Nat.mul_le_mul_right _ c1
        rw [Nat.add_mul, Nat.one_mul] at hjw
        have hpp : pp = j * b.w + o := by omega
        subst hpp
        have hwr : wr us.hp l' (j * b.w + o) (x.ev us.sl).cells = some (us.hp.set l' { b with cs := splice b.cs (j * b.w + o) (x.ev us.sl).cells }) := by
          rw [wr, h1]; simp only; rw [if_pos ⟨hbk, by rw [k1]; omega⟩]
        have hlt : l' < us.hp.length := get_len h1
        have hset : ∀ k, (us.hp.set l' { b with cs := splice b.cs (j * b.w + o) (x.ev us.sl).cells })[k]? = if k = l' then some { b with cs := splice b.cs (j * b.w + o) (x.ev us.sl).cells } else us.hp[k]? := by
          intro k
          rw [List.getElem?_set]
          by_cases h : l' = k
          · subst h; simp [hlt]
          · rw [if_neg h, if_neg (fun h' => h h'.symm)]
        have hV : ∀ k, k < s.hp.length → blkcs (us.hp.set l' { b with cs := splice b.cs (j * b.w + o) (x.ev us.sl).cells }) (ρ k) = blkcs us.hp (ρ k) := by
          intro k hk'
          have : ρ k ≠ l' := by intro e; have := (R1.hp k hk').1; rw [e, hl] at this; cases this
          simp only [blkcs, hset, if_neg this]
        have hx0 : hd ≠ .x 0 := a10 0
        have hok := Ren.segD_ok (hd := hd) (p := p) (s := j * b.w + o) (n := w.cells.length) hx0
        have t : Tr us.hp ω1 (us.hp.set l' { b with cs := splice b.cs (j * b.w + o) (x.ev us.sl).cells }) (fun l => Ag.ren (Ren.segD hd p (j * b.w + o) w.cells.length) (ω1 l)) (Ren.segD hd p (j * b.w + o) w.cells.length) (fun l => (l == l') = true) :=
          ⟨fun l e => ⟨by simp [e, Ag.ren], by rw [hset, if_neg]; rintro rfl; rw [hl] at e; cases e⟩, fun l hd p e hn => ⟨by simp [e, Ag.ren], by rw [hset, if_neg (by simpa using hn)]⟩, fun l i e => by simp [e, Ag.ren]⟩
        have notl : ∀ l a q, ω1 l = .own a q → ¬ (a = hd ∧ q = [p]) → (l == l') = false := by
          intro l a q e hn
          cases he : l == l' with
          | false => rfl
          | true =>
            have : l = l' := by simpa using he
            rw [this, hl] at e; cases e; exact absurd ⟨rfl, rfl⟩ hn
        have hes' : ∀ e ∈ eput es j (psplice (elt es j) o w.cells), e.length = b.w := eput_w hw' (by rw [psplice_len]; exact hel)
        -- the holder's slice behind the store
        have rnew : RC (us.hp.set l' { b with cs := splice b.cs (j * b.w + o) (x.ev us.sl).cells }) (fun l => Ag.ren (Ren.segD hd p (j * b.w + o) w.cells.length) (ω1 l)) (.at hd [p]) (.sl .own (eput es j (psplice (elt es j) o w.cells))) (.slice l' 0 es.length) := by
          refine RC.sl _ .own _ l' 0 _ { b with cs := splice b.cs (j * b.w + o) (x.ev us.sl).cells } (by rw [hset, if_pos rfl]) hk ⟨by simp only [hl, Ag.ren]; exact Ren.segD_top hx0, rfl, hbk⟩ (fun _ _ h => by have := congrArg List.length h; rw [eput_len] at this; simp only [List.length_nil] at this; omega) (by rw [eput_len]) hes' (by simp only [eput_len, splice_len]; exact hle') fun k hk' => ?_
          simp only [eput_len] at hk'
          simp only [Nat.zero_add]
          rw [eput_flat hw' c1 c3 k hk', splice_get' _ _ _ _ (by rw [k1]; omega), k1]
          split
          · rename_i hcc
            have hlay := (cellL_get c4 (k - (j * b.w + o))).1
            refine ((k3 (k - (j * b.w + o))).lay_inn hlay).inn t (fun l r e => ?_) (fun r => ?_)
            · rw [notl l _ _ e (fun h => hx0 h.1.symm)]; simp
            · simp only [List.cons_append, List.nil_append, Md.sub]
              rw [Ren.segD_mv (by omega), show j * b.w + o + (k - (j * b.w + o)) = k by omega]
          · rename_i hcc
            have r := hr' k hk'
            rw [Nat.zero_add] at r
            refine r.inn t (fun l r e => ?_) (fun r => ?_)
            · rw [notl l _ _ e (by simp)]; simp
            · simp only [List.cons_append, List.nil_append, Md.sub]
              exact Ren.segD_in hx0 hcc r
        have hfam : ∀ hd' q, fam ρ (setK s (.sl .own (eput es j (psplice (elt es j) o w.cells))) hd [p]) { us with hp := us.hp.set l' { b with cs := splice b.cs (j * b.w + o) (x.ev us.sl).cells } } X0 hd' q = fam ρ (setK s (.sl .own (eput es j (psplice (elt es j) o w.cells))) hd [p]) us X0 hd' q ∨ (fam ρ (setK s (.sl .own (eput es j (psplice (elt es j) o w.cells))) hd [p]) { us with hp := us.hp.set l' { b with cs := splice b.cs (j * b.w + o) (x.ev us.sl).cells } } X0 hd' q).1 = .fl .undef := by
          intro hd' q
          cases hd' with
          | h i =>
            rcases Nat.lt_or_ge i s.hp.length with hi | hi
            · left; simp only [fam, hV i hi]
            · right
              have hz : pgetB (setK s (.sl .own (eput es j (psplice (elt es j) o w.cells))) hd [p]).hp i = [] := by rw [pgetB_eq, List.getElem?_eq_none (by rw [a8]; exact hi)]; rfl
              simp only [fam, hz]; unfold cellAt; split <;> rfl
          | _ => left; rfl
        have hstep : stepV (.storeH w.cells.length a x) us = some (.undef, us.bx, us.hp.set l' { b with cs := splice b.cs (j * b.w + o) (x.ev us.sl).cells }) := by
          simp only [stepV, hau]
          rw [if_pos ⟨k1, k2⟩, hwr]; rfl
        refine out_undef (o := .storeH w.cells.length a x) hstep (RS.rent (l0 := l') (X' := X0) R1 hok (fun l a q i r e0 e => ?_) hl (fun l hn => by simp only [hset, if_neg hn]) ⟨{ b with cs := splice b.cs (j * b.w + o) (x.ev us.sl).cells }, by simp only [hset, if_pos], hbk⟩ (by simp) (fun hd' q => ?_) a2 (fun i => shp_undef _) (by rw [a3]; exact R1.lsl) (by rw [a4]; exact R1.lbx) (fun i => by rw [a5]; exact R1.lb i) a6 a7 a8 (fun i hi => by simp only [hV i hi, a9]; exact (R1.hp i hi).2))
        · rw [a8]
          rcases segD_hh a q i r e with rfl | rfl
          · exact R1.bdh l i q e0
          · exact R1.bdh l' i [p] hl
        · simp only [AOp.clears]
          rcases hfam hd' q with hf | hf
          · rw [hf]
            by_cases hxx : ∃ i, hd' = .x i
            · obtain ⟨i, rfl⟩ := hxx; exact .inr (undef_rc (fam_x0 i q))
            · rcases a1 hd' q (fun i h => hxx ⟨i, h⟩) with h | ⟨rfl, rfl, h3⟩ | ⟨e1, e2, e3⟩
              · exact .inr (undef_rc h)
              · refine .inr ?_
                rw [h3]
                exact ⟨fun i pb tp => by simp [PV.q], rnew⟩
              · rw [e1]
                refine .inl ⟨hd', q, rfl, fun hown => ?_, fun hb pb tp e' hxb => ?_⟩
                · by_cases hh : hd' = hd
                  · subst hh
                    rcases a12 q with h | ⟨c', rfl⟩
                    · rw [h] at hown; cases hown
                    · have hcc : c' ≠ p := fun h => e2 ⟨rfl, by rw [h]⟩
                      exact ⟨fun l r e => notl l _ _ e (fun h => hcc (by simpa using congrArg (fun z => z.head?) h.2)), fun r => Ren.segD_oth hx0 hcc r⟩
                  · exact ⟨fun l r e => notl l _ _ e (fun h => hh h.1), fun r => Ren.segD_still hh (fun h => hxx ⟨0, h⟩) _⟩
                · have hne := e3 hb pb tp e'
                  have : (Ren.segD hd p (j * b.w + o) w.cells.length).still hb := Ren.segD_still hne (hxb 0)
                  exact ⟨fun l q e => notl l _ _ e (fun h => hne h.1), fun _ => this, this.soft⟩
          · exact .inr (undef_rc hf)
  · cases e
end
def Ren.kp (live : List Nat) : Ren := fun hd p => match hd with
  | .s t => if live.contains t then .own (.s t) p else .frz
  | hd => .own hd p
theorem Ren.kp_ok (live : List Nat) : (Ren.kp live).Ok := by
  have cl : ∀ a p, Ren.kp live a p = .own a p ∨ Ren.kp live a p = .frz := by
    intro a p
    cases a with
    | s t => simp only [Ren.kp]; split; exact .inl rfl; exact .inr rfl
    | _ => exact .inl rfl
  refine ⟨fun hd p hd' p' x c e e' => ?_, fun hd p => ?_⟩
  · rcases cl hd p with h | h <;> rw [h] at e <;> cases e
    rcases cl hd' p' with h' | h' <;> rw [h'] at e' <;> cases e'
    exact ⟨rfl, rfl⟩
  · rcases cl hd p with h | h
    · exact .inr ⟨_, _, h⟩
    · exact .inl h
theorem Ren.kp_soft (live : List Nat) (hd : Hd) : (Ren.kp live).soft hd := fun p => by
  cases hd with
  | s t => simp only [Ren.kp]; split; exact .inr ⟨p, rfl⟩; exact .inl rfl
  | _ => exact .inr ⟨p, rfl⟩
theorem RC.detop {h : Heap} {ω : Nat → W} {hd : Hd} {p : List Nat} {v : PV} {u : V} (r : RC h ω (.at hd p) v u) (hs : v.sc) : RC h ω (.at hd p) v.detop u := by
  cases r with
  | undef => exact .undef _ _
  | v _ _ hx => exact .v _ _ hx
  | nil _ q => cases q <;> exact .nil _ _
  | sl _ q es l o n b h1 hk hc hne hn hw hle hr =>
    cases q with
    | bor a c d => exact .sl _ _ _ _ _ _ b h1 hk ⟨hc.1, fun e => by cases e⟩ (by simp) hn hw hle hr
    | pre a c => exact .sl _ _ _ _ _ _ b h1 hk ⟨.inl ⟨_, hc.1⟩, fun e => by cases e⟩ (by simp) hn hw hle hr
    | frz => exact .sl _ _ _ _ _ _ b h1 hk hc hne hn hw hle hr
    | own => exact .sl _ _ _ _ _ _ b h1 hk hc hne hn hw hle hr
    | ownw => exact .sl _ _ _ _ _ _ b h1 hk hc hne hn hw hle hr
  | ep _ q es j o' l o p2 b h1 hk hqo hc hw hle hr hp' =>
    cases q with
    | bor a c d => exact .ep _ _ _ _ _ _ _ _ b h1 hk rfl ⟨hc.1, fun e => by cases e⟩ hw hle hr hp'
    | pre a c => exact .ep _ _ _ _ _ _ _ _ b h1 hk rfl ⟨.inl ⟨_, hc.1⟩, fun e => by cases e⟩ hw hle hr hp'
    | frz => exact .ep _ _ _ _ _ _ _ _ b h1 hk hqo hc hw hle hr hp'
    | own => cases hqo
    | ownw => cases hqo
  | box _ i o => exact .box _ _ _
  | ptr _ _ i o l hl => exact .ptr _ _ _ _ _ hl
theorem detopL_get (cs : List PV) (c : Nat) : pget (PV.detopL cs) c = (pget cs c).detop := by
  induction cs generalizing c with
  | nil => rfl
  | cons x r ih => cases c with
    | zero => rfl
    | succ c => exact ih c
theorem detopL_len (cs : List PV) : (PV.detopL cs).length = cs.length := by
  induction cs with
  | nil => rfl
  | cons x r ih => simp [PV.detopL, ih]
theorem detop_sc {v : PV} (h : v.sc) : v.detop.sc := by
  cases v with
  | agg cs => exact absurd rfl (h.1 _)
  | tup cs => exact absurd rfl (h.2 _)
  | sl q es => cases q <;> exact ⟨fun _ h => (by cases h), fun _ h => (by cases h)⟩
  | ep q es j o => cases q <;> exact ⟨fun _ h => (by cases h), fun _ h => (by cases h)⟩
  | _ => exact h
theorem detop_fcell (v : PV) (p : List Nat) : v.detop.fcell p = (v.fcell p).detop := by
  have sc : ∀ w : PV, w.sc → ∀ p, w.detop.fcell p = (w.fcell p).detop := by
    intro w hw p
    have hd := detop_sc hw
    match p with
    | [0] => rw [fcell_scalar hw.1 hw.2, fcell_scalar hd.1 hd.2]
    | [] => cases w <;> first | exact absurd rfl (hw.1 _) | exact absurd rfl (hw.2 _) | rfl | (rename_i q _; cases q <;> rfl) | (rename_i q _ _ _; cases q <;> rfl)
    | (_ + 1) :: _ => cases w <;> first | exact absurd rfl (hw.1 _) | exact absurd rfl (hw.2 _) | rfl | (rename_i q _; cases q <;> rfl) | (rename_i q _ _ _; cases q <;> rfl)
    | 0 :: _ :: _ => cases w <;> first | exact absurd rfl (hw.1 _) | exact absurd rfl (hw.2 _) | rfl | (rename_i q _; cases q <;> rfl) | (rename_i q _ _ _; cases q <;> rfl)
  cases v with
  | agg cs =>
    match p with
    | [c] => exact detopL_get cs c
    | [] => rfl
    | _ :: _ :: _ => rfl
  | tup vs =>
    match p with
    | [i, c] =>
      show pget (pget (PV.detopL vs) i).cells c = (pget (pget vs i).cells c).detop
      rw [detopL_get]
      generalize pget vs i = w
      cases w with
      | agg cs => exact detopL_get cs c
      | sl q es => cases q <;> cases c <;> rfl
      | ep q es j o => cases q <;> cases c <;> rfl
      | _ => cases c <;> rfl
    | [] => rfl
    | [_] => rfl
    | _ :: _ :: _ :: _ => rfl
  | _ => exact sc _ ⟨fun _ h => (by cases h), fun _ h => (by cases h)⟩ p
theorem detop_shp1 {v : PV} {u : V} (h : Shp1 v u) : Shp1 v.detop u := by
  cases v with
  | agg cs => obtain ⟨ws, h1, h2⟩ := h; exact ⟨ws, h1, by rw [detopL_len]; exact h2⟩
  | tup cs => exact h.elim
  | sl q es => cases q <;> exact h
  | ep q es j o => cases q <;> exact h
  | _ => exact h
theorem detop_shp {v : PV} {u : V} (h : Shp v u) : Shp v.detop u := by
  cases v with
  | tup cs => obtain ⟨ws, h1, h2, h3⟩ := h; exact ⟨ws, h1, by rw [detopL_len]; exact h2, fun i => by rw [detopL_get]; exact detop_shp1 (h3 i)⟩
  | agg cs => exact detop_shp1 (v := .agg cs) h
  | sl q es => cases q <;> exact h
  | ep q es j o => cases q <;> exact h
  | _ => exact h
theorem RC.sc {h : Heap} {ω : Nat → W} {m : Md} {v : PV} {u : V} (r : RC h ω m v u) : v.sc := by
  cases r <;> exact ⟨fun _ h => (by cases h), fun _ h => (by cases h)⟩
theorem detop_q {v : PV} : v.detop.qo = v.qo ∧ ∀ hb pb tp, v.detop.q = some (.bor hb pb tp) → tp = false ∧ ∃ pb' tp', v.q = some (.bor hb pb' tp') := by
  cases v with
  | sl q es => cases q <;> refine ⟨rfl, fun hb pb tp e => ?_⟩ <;> simp [PV.detop, PV.q] at e <;> first | (obtain ⟨rfl, _, rfl⟩ := e; exact ⟨rfl, _, _, rfl⟩) | skip
  | ep q es j o => cases q <;> refine ⟨rfl, fun hb pb tp e => ?_⟩ <;> simp [PV.detop, PV.q] at e <;> first | (obtain ⟨rfl, _, rfl⟩ := e; exact ⟨rfl, _, _, rfl⟩) | skip
  | _ => exact ⟨rfl, fun hb pb tp e => by simp [PV.detop, PV.q] at e⟩
section
variable {h0 : Heap} {ω0 ω : Nat → W} {ρ ρ' : Nat → Nat} {st st' st1 : PS} {us us' : St} {X X' : Hands}
theorem RS.kp (R : RS h0 ω0 ω ρ st us X0) (live : List Nat) : ∃ ω', RS h0 ω0 ω' ρ { st with sl := pkeep live 0 st.sl } { us with sl := keep live 0 us.sl } X0 := by
  have sl : ∀ t, (pget (pkeep live 0 st.sl) t = .fl .undef) ∨ (live.contains t = true ∧ pget (pkeep live 0 st.sl) t = (pget st.sl t).detop ∧ get (keep live 0 us.sl) t = get us.sl t) := by
    intro t
    rw [pkeep_get, keep_get, Nat.zero_add]
    cases h : live.contains t with
    | true => exact .inr ⟨rfl, rfl, rfl⟩
    | false => exact .inl rfl
  have tr := Tr.of_ren us.hp ω (Ren.kp live)
  refine ⟨_, RS.ren (X' := X0) R (Ren.kp_ok live) (fun hd p i q e => ?_) (fun hd' p => ?_) rfl (fun t => ?_) (fun i => shp_undef _) (by simp [pkeep_len, keep_len, R.lsl]) R.lbx R.lb R.cb R.ch rfl (fun _ => rfl)⟩
  · cases hd with
    | s t => simp only [Ren.kp] at e; split at e <;> cases e
    | _ => first | (cases e; done) | (cases e; rfl)
  · cases hd' with
    | x i => exact .inr (undef_rc (fam_x0 i p))
    | s t =>
      simp only [fam]
      rcases sl t with h | ⟨hl, h1, h2⟩
      · refine .inr ?_; rw [h]; exact undef_rc' (fcell_undef p)
      · rw [h1, h2, detop_fcell]
        have r := R.core.rc (.s t) p
        simp only [fam] at r
        have hnx := R.nx (.s t) p
        simp only [fam] at hnx
        refine .inr ⟨fun i pb tp e => ?_, ?_⟩
        · obtain ⟨_, pb', tp', e'⟩ := (detop_q).2 _ _ _ e
          exact hnx i pb' tp' e'
        · refine (r.detop r.sc).tr tr (fun e => ⟨fun _ _ _ => id, fun r => by simp [Ren.kp]; simpa using hl⟩) (fun hb pb tp e => ?_)
          obtain ⟨h, _⟩ := (detop_q).2 _ _ _ e
          exact ⟨fun _ _ _ => id, fun h' => (by rw [h] at h'; cases h'), Ren.kp_soft live hb⟩
    | b i => exact .inl (moved_still rfl (fun _ _ => rfl) fun hb pb tp e' => absurd e' (R.nobor_b i p hb pb tp))
    | h i => exact .inl (moved_still rfl (fun _ _ => rfl) fun hb pb tp e' => absurd e' (R.nobor_h i p hb pb tp))
  · rcases sl t with h | ⟨_, h1, h2⟩
    · simp only [h]; exact shp_undef _
    · simp only [h1, h2]; exact detop_shp (R.sh t)
theorem RS.trim (R : RS h0 ω0 ω ρ st us X0) (live : List Nat) : RS h0 ω0 ω ρ { st with sl := ptrim live 0 st.sl } us X0 := by
  have sl : ∀ t, pget (ptrim live 0 st.sl) t = .fl .undef ∨ pget (ptrim live 0 st.sl) t = pget st.sl t := by
    intro t
    rw [ptrim_get, Nat.zero_add]
    split
    · exact .inr rfl
    · exact .inl rfl
  have := RS.ren (st' := { st with sl := ptrim live 0 st.sl }) (us' := us) (X' := X0) R Ren.id_ok (fun hd p i q e => by simp [Ren.id] at e; exact e.1) (fun hd' p => ?_) rfl (fun t => ?_) R.shx (by simp [ptrim_len, R.lsl]) R.lbx R.lb R.cb R.ch rfl (fun _ => rfl)
  · rwa [ren_id] at this
  · cases hd' with
    | x i => exact .inl (moved_id rfl)
    | b i => exact .inl (moved_id rfl)
    | h i => exact .inl (moved_id rfl)
    | s t =>
      simp only [fam]
      rcases sl t with h | h
      · refine .inr ?_; rw [h]; exact undef_rc' (fcell_undef p)
      · rw [h]; exact .inl (moved_id rfl)
  · simp only
    rcases sl t with h | h
    · rw [h]; exact shp_undef _
    · rw [h]; exact R.sh t
theorem pstep_sound (R : RS h0 ω0 ω ρ st us X0) {m : Bool} {o : AOp} {v : PV} (e : pstep m o st = some (v, st1)) : Out2 o us h0 ω0 v st1 := by
  have ws : ∀ {o : Option PV} {v : PV} {st1 : PS}, withSt st o = some (v, st1) → o = some v ∧ st1 = st := by
    intro o v st1 e
    cases o with
    | none => cases e
    | some x => simp only [withSt, Option.map_some, Option.some.injEq, Prod.mk.injEq] at e; exact ⟨by rw [e.1], e.2.symm⟩
  cases o with
  | mv x =>
    simp only [pstep, Option.some.injEq] at e
    have := o_mv R m x
    rw [e] at this; exact this
  | nilck x => obtain ⟨e, rfl⟩ := ws e; exact o_nilck R e
  | pick c a b =>
    simp only [pstep] at e
    split at e
    · rename_i t hc
      simp only [Option.some.injEq] at e
      have := o_pick R (a := a) (b := b) hc
      rw [e] at this; exact this
    · cases e
  | allocB i zs =>
    simp only [pstep] at e
    split at e
    · rename_i h; cases e; exact o_allocB R h.1 h.2
    · cases e
  | boxB i n x => exact o_boxB R e
  | allocH zs =>
    simp only [pstep] at e
    split at e
    · rename_i h; cases e; exact o_allocH R h
    · cases e
  | boxH n x => exact o_boxH R e
  | build zs ps => exact o_build R e
  | mkSlice w z len =>
    simp only [pstep] at e
    split at e
    · rename_i n hl
      split at e
      · rename_i h; cases e; exact o_mkSlice R hl h.1 h.2.1 h.2.2.1 h.2.2.2.1 h.2.2.2.2
      · cases e
    · cases e
  | litSlice w n zs ps => exact o_litSlice R e
  | loadB i n a => exact o_loadB R e
  | loadH n a => exact o_loadH R e
  | storeB i n a x => exact o_storeB R e
  | storeH n a x =>
    simp only [pstep] at e
    unfold p_storeH at e
    split at e
    rename_i w s emo
    split at e
    · rename_i i o hx; exact o_storeHp R emo hx e
    · rename_i hd p esa j o hx
      split at e
      · rename_i es hg; exact o_storeHe R emo hx hg e
      · cases e
    · cases e
  | bin op x y => obtain ⟨e, rfl⟩ := ws e; exact o_bin R e
  | eqB neg x y => obtain ⟨e, rfl⟩ := ws e; exact o_eqB R e
  | eqN neg x y =>
    simp only [pstep] at e
    split at e
    · obtain ⟨e, rfl⟩ := ws e; exact o_eqN R e
    · cases e
  | eqA n neg x y => obtain ⟨e, rfl⟩ := ws e; exact o_eqA R e
  | un op x => obtain ⟨e, rfl⟩ := ws e; exact o_un R e
  | conv k x => obtain ⟨e, rfl⟩ := ws e; exact o_conv R e
  | bstr x => obtain ⟨e, rfl⟩ := ws e; exact o_bstr R e
  | slice w x lo hi => obtain ⟨e, rfl⟩ := ws e; exact o_slice R e
  | substr x lo hi => obtain ⟨e, rfl⟩ := ws e; exact o_substr R e
  | fieldA off a => obtain ⟨e, rfl⟩ := ws e; exact o_fieldA R e
  | field off n x => obtain ⟨e, rfl⟩ := ws e; exact o_field R e
  | indexA w x i => obtain ⟨e, rfl⟩ := ws e; exact o_indexA R e
  | index x i => obtain ⟨e, rfl⟩ := ws e; exact o_index R e
  | len x => obtain ⟨e, rfl⟩ := ws e; exact o_len R e
  | lenT x => obtain ⟨e, rfl⟩ := ws e; exact o_lenT R e
  | app w x y => exact o_app R e
  | minI x y => obtain ⟨e, rfl⟩ := ws e; exact o_min R e
  | maxI x y => obtain ⟨e, rfl⟩ := ws e; exact o_max R e
  | extract x i =>
    simp only [pstep] at e
    split at e
    · rename_i t
      split at e
      · rename_i vs ht
        split at e
        · rename_i hi; exact o_extract R ht hi e
        · cases e
      · cases e
    · cases e
  | call f args => cases e
end
def NoLoc (ω : Nat → W) : Prop := ∀ l hd p, ω l = .own hd p → ∃ i, hd = .h i
def PV.nob (v : PV) : Prop := ∀ p hb pb tp, (v.fcell p).q ≠ some (.bor hb pb tp)
def SoundP (f : CallSem) (p : PSem) : Prop := ∀ (h : Heap) (ω0 : Nat → W) (ρ : Nat → Nat) (args : List PV) (us : List V) (H : List (List PV)) (Q : PV → List (List PV) → Prop) (K : V → Heap → Prop),
  RS h ω0 ω0 ρ ⟨args, [], H⟩ ⟨us, [], h⟩ X0 → NoLoc ω0 → p args H Q →
  (∀ u h' r H' ω' ρ', Q r H' → RS h ω0 ω' ρ' ⟨[], [], H'⟩ ⟨[], [], h'⟩ (X1 r u) → r.nob → K u h') → f us h K
theorem RC.fzA {h : Heap} {ω ωc : Nat → W} {hd hd' : Hd} {p p' : List Nat} {v : PV} {u : V} (r : RC h ω (.at hd p) v u) (hp : ∀ i o, v ≠ .ptr i o) (hf : ∀ l, ω l = .frz → ωc l = .frz) (ho : v.q = none ∨ v.q = some .frz ∨ ∀ l a q, ω l = .own a q → ωc l = .frz) : RC h ωc (.at hd' p') v.fz u := by
  have ind : ∀ (dm : Prop) {m : Md} {v : PV} {u : V}, (∀ hd p, m ≠ .at hd p) → (dm → ∀ l a q, ω l = .own a q → ωc l = .frz) → (m = .fz ∨ dm) → RC h ω m v u → RC h ωc .fz v u := by
    intro dm m v u hm hd hdm r
    refine r.map (S := fun m m' => (m = .fz ∨ (dm ∧ ∀ hd p, m ≠ .at hd p)) ∧ m' = .fz) ?_ ?_ ?_ (by rintro m m' ⟨_, rfl⟩ e; cases e) ⟨hdm.imp id (fun h => ⟨h, hm⟩), rfl⟩
    · rintro m m' q k ⟨rfl | ⟨hdm, hm⟩, rfl⟩
      · exact ⟨.inl rfl, rfl⟩
      · refine ⟨.inr ⟨hdm, fun hd p h => ?_⟩, rfl⟩
        cases m <;> cases q <;> simp [Md.sub] at h <;> exact absurd rfl (hm _ _)
    · rintro m m' q l o b ⟨rfl | ⟨hdm, hm⟩, rfl⟩ hb hc
      · exact ⟨hb, hf l hc⟩
      · refine ⟨hb, ?_⟩
        have hd' := hd hdm
        cases m with
        | fz => exact hf l hc
        | inn a b => cases q <;> first | exact hf l hc | exact hd' l _ _ hc.1 | exact hc.elim
        | un a => cases q <;> first | exact hf l hc | (rcases hc with ⟨p, hc⟩ | hc; exact hd' l _ _ hc; exact hf l hc) | exact hc.elim
        |_=>exact absurd rfl (hm _ _)
    · rintro hd p m' ⟨h | ⟨_, h⟩, _⟩
      · cases h
      · exact h hd p rfl
  have chkf : ∀ (q : Ql) (l o : Nat) (b : Blk), (q = .frz ∨ ∀ l a q, ω l = .own a q → ωc l = .frz) → chk ω (.at hd p) q l o b → ωc l = .frz := by
    intro q l o b ho hc
    cases q with
    | frz => exact hf l hc
    | own => rcases ho with h | h; cases h; exact h l _ _ hc.1
    | ownw => rcases ho with h | h; cases h; exact h l _ _ hc.1
    | bor => rcases ho with h | h; cases h; rcases hc.1 with ⟨p, hc⟩ | hc; exact h l _ _ hc; exact hf l hc
    | pre => rcases ho with h | h; cases h; exact h l _ _ hc.1
  have sub : ∀ (q : Ql) (k : Nat) (v : PV) (u : V), (q = .frz ∨ ∀ l a q, ω l = .own a q → ωc l = .frz) → RC h ω (Md.sub (.at hd p) q k) v u → RC h ωc .fz v u := by
    intro q k v u ho r
    refine ind (∀ l a q, ω l = .own a q → ωc l = .frz) ?_ id ?_ r
    · intro a b; cases q <;> simp [Md.sub]
    · rcases ho with rfl | h
      · exact .inl rfl
      · exact .inr h
  cases r with
  | undef => exact .undef _ _
  | v _ _ hx => exact .v _ _ hx
  | nil _ q => exact .nil _ _
  | sl _ q es l o n b h1 hk hc hne hn hw hle hr =>
    have ho' : q = .frz ∨ ∀ l a q, ω l = .own a q → ωc l = .frz := by
      rcases ho with h | h | h
      · cases q <;> simp [PV.q] at h
      · left; cases q <;> simp [PV.q] at h; rfl
      · exact .inr h
    exact .sl _ _ _ _ _ _ b h1 hk (chkf q l o b ho' hc) (by simp) hn hw hle fun k hk => sub q k _ _ ho' (hr k hk)
  | ep _ q es j o' l o p2 b h1 hk hqo hc hw hle hr hp' =>
    have ho' : q = .frz ∨ ∀ l a q, ω l = .own a q → ωc l = .frz := by
      rcases ho with h | h | h
      · exfalso; cases q <;> simp [PV.q] at h <;> cases hqo
      · left; cases q <;> simp [PV.q] at h; rfl
      · exact .inr h
    exact .ep _ _ _ _ _ _ _ _ b h1 hk rfl (chkf q l o b ho' hc) hw hle (fun k hk => sub q k _ _ ho' (hr k hk)) hp'
  | box _ i o => exact .box _ _ _
  | ptr _ _ i o l hl => exact absurd rfl (hp i o)
theorem holdL_get {cs : List PV} (h : PV.holdL cs = false) (c : Nat) : (pget cs c).hold = false := by
  induction cs generalizing c with
  | nil => rfl
  | cons x r ih =>
    simp only [PV.holdL, Bool.or_eq_false_iff] at h
    cases c with
    | zero => exact h.1
    | succ c => exact ih h.2 c
theorem hold_q {v : PV} (h : v.hold = false) (hs : v.sc) : v.q = none ∨ v.q = some .frz := by
  cases v with
  | sl q es => cases q <;> simp [PV.hold] at h; exact .inr rfl
  | ep q es j o => cases q <;> simp [PV.hold] at h; exact .inr rfl
  | agg cs => exact absurd rfl (hs.1 _)
  | tup cs => exact absurd rfl (hs.2 _)
  | _ => exact .inl rfl
theorem argL_get {cs : List PV} (h : argL cs = true) (c : Nat) : (pget cs c).argc = true ∨ pget cs c = .fl .undef := by
  induction cs generalizing c with
  | nil => exact .inr rfl
  | cons x r ih =>
    simp only [argL, Bool.and_eq_true] at h
    cases c with
    | zero => exact .inl h.1
    | succ c => exact ih h.2 c
theorem arg_cell {v : PV} (h : v.argok = true) (p : List Nat) : (v.fcell p).sc ∧ (v.hold = false → (v.fcell p).q = none ∨ (v.fcell p).q = some .frz) ∧ (v.hasPtr = false → ∀ i o, v.fcell p ≠ .ptr i o) := by
  have un : (PV.fl .undef).sc ∧ ((PV.fl .undef).q = none ∨ (PV.fl .undef).q = some .frz) ∧ ∀ i o, PV.fl .undef ≠ .ptr i o := ⟨sc_undef, .inl rfl, fun _ _ h => by cases h⟩
  have hpL : ∀ (cs : List PV) c, PV.hasPtrL cs = false → (pget cs c).hasPtr = false := by
    intro cs
    induction cs with
    | nil => intro c _; rfl
    | cons x r ih =>
      intro c hc
      simp only [PV.hasPtrL, Bool.or_eq_false_iff] at hc
      cases c with
      | zero => exact hc.1
      | succ c => exact ih c hc.2
  have np : ∀ w : PV, w.hasPtr = false → ∀ i o, w ≠ .ptr i o := by rintro w hw i o rfl; cases hw
  cases v with
  | agg cs =>
    match p with
    | [c] =>
      have hs : (pget cs c).sc := by
        rcases argL_get h c with h1 | h1
        · generalize pget cs c = w at h1
          cases w <;> first | (cases h1; done) | exact ⟨fun _ h => (by cases h), fun _ h => (by cases h)⟩
        · rw [h1]; exact sc_undef
      exact ⟨hs, fun hh => hold_q (holdL_get hh c) hs, fun hh => np _ (hpL cs c hh)⟩
    | [] => exact ⟨un.1, fun _ => un.2.1, fun _ => un.2.2⟩
    | _ :: _ :: _ => exact ⟨un.1, fun _ => un.2.1, fun _ => un.2.2⟩
  | tup vs => cases h
  | _ =>
    match p with
    | [0] => exact ⟨⟨fun _ h => (by cases h), fun _ h => (by cases h)⟩, fun hh => hold_q hh ⟨fun _ h => (by cases h), fun _ h => (by cases h)⟩, fun hh => np _ hh⟩
    | [] => exact ⟨un.1, fun _ => un.2.1, fun _ => un.2.2⟩
    | (_ + 1) :: _ => exact ⟨un.1, fun _ => un.2.1, fun _ => un.2.2⟩
    | 0 :: _ :: _ => exact ⟨un.1, fun _ => un.2.1, fun _ => un.2.2⟩
theorem fzL_len (cs : List PV) : (PV.fzL cs).length = cs.length := by
  induction cs with
  | nil => rfl
  | cons x r ih => simp [PV.fzL, ih]
theorem arg_fz_shp {v : PV} {u : V} (h : Shp v u) (hr : v.argok = true) : Shp v.fz u := by
  cases v with
  | agg cs => obtain ⟨ws, h1, h2⟩ := h; exact ⟨ws, h1, by rw [fzL_len]; exact h2⟩
  | tup vs => cases hr
  | _ => exact h
theorem argc_V {H : Heap} {ω : Nat → W} {m : Md} {v : PV} {u : V} (r : RC H ω m v u) (h : v.argc = true) : u.cell = true := by
  cases r with
  | undef => simp [PV.argc, V.flat] at h
  | v _ _ hx => cases u <;> first | rfl | simp [V.flat] at hx
  | nil => rfl
  | sl => rfl
  | ep => cases h
  | box => cases h
  | ptr => rfl
theorem arg_V {h : Heap} {ω : Nat → W} {hd : Hd} {v : PV} {u : V} (ho : v.argok = true) (hs : Shp v u) (hr : ∀ p, RC h ω (.at hd p) (v.fcell p) (u.fcell p)) : u.ok1 = true := by
  have one : ∀ {v : PV} {u : V}, v.argc = true → v.sc → Shp v u → (∀ p, RC h ω (.at hd p) (v.fcell p) (u.fcell p)) → u.ok1 = true := by
    intro v u ha hsc hs hr
    have hu : (∀ us, u ≠ .agg us) ∧ ∀ us, u ≠ .tup us := by
      cases v with
      | agg cs => exact absurd rfl (hsc.1 _)
      | tup cs => exact absurd rfl (hsc.2 _)
      | fl x => cases x <;> first | exact hs | (simp [PV.argc, V.flat] at ha)
      | _ => exact hs
    have r := hr [0]
    rw [fcell_scalar hsc.1 hsc.2, vfcell_scalar hu.1 hu.2] at r
    have := argc_V r ha
    cases u <;> first | exact this | exact absurd rfl (hu.1 _) | exact absurd rfl (hu.2 _)
  cases v with
  | agg cs =>
    obtain ⟨ws, rfl, hl⟩ := hs
    simp only [V.ok1, List.all_eq_true]
    intro w hw
    obtain ⟨c, hc, rfl⟩ := List.getElem_of_mem hw
    have r := hr [c]
    have r' : RC h ω (.at hd [c]) (pget cs c) (get ws c) := r
    rw [get_eq, List.getElem?_eq_getElem hc] at r'
    rcases argL_get ho c with h1 | h1
    · exact argc_V r' h1
    · exfalso
      have : c < cs.length := by omega
      have hin : ∀ (cs : List PV) c, c < cs.length → argL cs = true → (pget cs c).argc = true := by
        intro cs
        induction cs with
        | nil => intro c h; simp at h
        | cons x r ih =>
          intro c h h'
          simp only [argL, Bool.and_eq_true] at h'
          cases c with
          | zero => exact h'.1
          | succ c => exact ih c (by simpa using h) h'.2
      have := hin cs c this ho
      rw [h1] at this; simp [PV.argc, V.flat] at this
  | tup vs => cases ho
  | fl x => exact one (v := .fl x) ho ⟨fun _ h => (by cases h), fun _ h => (by cases h)⟩ hs hr
  | sl q es => exact one (v := .sl q es) ho ⟨fun _ h => (by cases h), fun _ h => (by cases h)⟩ hs hr
  | ep q es j o => exact one (v := .ep q es j o) ho ⟨fun _ h => (by cases h), fun _ h => (by cases h)⟩ hs hr
  | box i o => exact one (v := .box i o) ho ⟨fun _ h => (by cases h), fun _ h => (by cases h)⟩ hs hr
  | ptr i o => exact one (v := .ptr i o) ho ⟨fun _ h => (by cases h), fun _ h => (by cases h)⟩ hs hr
theorem argsOk_get {as : List PV} (h : argsOk as = true) (t : Nat) (ht : t < as.length) : (pget as t).argok = true := by
  induction as generalizing t with
  | nil => simp at ht
  | cons x r ih =>
    simp only [argsOk, Bool.and_eq_true] at h
    cases t with
    | zero => exact h.1
    | succ t => exact ih h.2 t (by simpa using ht)
theorem map_pget (args : List Opnd) (s : List PV) (t : Nat) : (t < args.length ∧ ∃ x, args[t]? = some x ∧ pget (args.map (·.pev s)) t = x.pev s) ∨ (args.length ≤ t ∧ pget (args.map (·.pev s)) t = .fl .undef) := by
  rcases Nat.lt_or_ge t args.length with h | h
  · exact .inl ⟨h, args[t], List.getElem?_eq_getElem h, by rw [pget_eq, List.getElem?_map, List.getElem?_eq_getElem h]; rfl⟩
  · exact .inr ⟨h, pget_ge _ _ (by simpa using h)⟩
theorem map_get (args : List Opnd) (s : List V) (t : Nat) : (∀ x, args[t]? = some x → get (args.map (·.ev s)) t = x.ev s) ∧ (args.length ≤ t → get (args.map (·.ev s)) t = .undef) := by
  refine ⟨fun x h => ?_, fun h => ?_⟩
  · rw [get_eq, List.getElem?_map, h]; rfl
  · rw [get_eq, List.getElem?_eq_none (by simpa using h)]; rfl
theorem map_fz_pget (as : List PV) (t : Nat) : pget (as.map PV.fz) t = (pget as t).fz := by
  rw [pget_eq, pget_eq, List.getElem?_map]
  cases as[t]? <;> rfl
section
variable {h0 : Heap} {ω0 ω : Nat → W} {ρ ρ' : Nat → Nat} {st st' st1 : PS} {us us' : St} {X X' : Hands}
def ωc (dm : Bool) (ω : Nat → W) : Nat → W := fun l => match ω l with
  | .frz => .frz
  | .own _ _ => if dm then .frz else .none
  | _ => .none
theorem RS.enter (R : RS h0 ω0 ω ρ st us X0) {args : List Opnd} (hok : argsOk (args.map (·.pev st.sl)) = true) (hnp : (args.map (·.pev st.sl)).any PV.hasPtr = false) (dm : Bool) (hdm : dm = false → (args.map (·.pev st.sl)).all (fun v => !v.hold) = true) :
    RS us.hp (ωc dm ω) (ωc dm ω) ρ ⟨(args.map (·.pev st.sl)).map PV.fz, [], []⟩ ⟨args.map (·.ev us.sl), [], us.hp⟩ X0 := by
  have no : ∀ l, ωc dm ω l = .frz ∨ ωc dm ω l = .none := by
    intro l
    unfold ωc
    split
    · exact .inl rfl
    · cases dm <;> simp
    · exact .inr rfl
  have noo : ∀ l hd p, ωc dm ω l ≠ .own hd p := fun l hd p e => by rcases no l with h | h <;> rw [h] at e <;> cases e
  have nop : ∀ l i, ωc dm ω l ≠ .ptr i := fun l i e => by rcases no l with h | h <;> rw [h] at e <;> cases e
  have cellOk : ∀ t p, nobx ((pget ((args.map (·.pev st.sl)).map PV.fz) t).fcell p) ∧ RC us.hp (ωc dm ω) (.at (.s t) p) ((pget ((args.map (·.pev st.sl)).map PV.fz) t).fcell p) ((get (args.map (·.ev us.sl)) t).fcell p) := by
    intro t p
    rw [map_fz_pget]
    rcases map_pget args st.sl t with ⟨ht, x, hx, e⟩ | ⟨_, e⟩
    · have hao := argsOk_get hok t (by simpa using ht)
      rw [e] at hao ⊢
      rw [(map_get args us.sl t).1 x hx]
      obtain ⟨hd, _, _, hr⟩ := R.ev x
      obtain ⟨g1, g2, g3⟩ := arg_cell hao p
      have hp : (x.pev st.sl).hasPtr = false := by
        have := List.any_eq_false.1 hnp (x.pev st.sl) (List.mem_map.2 ⟨x, List.mem_of_getElem? hx, rfl⟩)
        simpa using this
      rcases fz_fcell (x.pev st.sl) p with h | h
      · rw [h]
        refine ⟨fun i pb tp e' => ?_, (hr p).fzA (g3 hp) (fun l e => by simp [ωc, e]) ?_⟩
        · generalize (x.pev st.sl).fcell p = w at e'
          cases w <;> simp [PV.fz, PV.q] at e'
        · cases dm with
          | true => exact .inr (.inr fun l a q e => by simp [ωc, e])
          | false =>
            have hh := List.all_eq_true.1 (hdm rfl) (x.pev st.sl) (List.mem_map.2 ⟨x, List.mem_of_getElem? hx, rfl⟩)
            rcases g2 (by simpa using hh) with h | h
            · exact .inl h
            · exact .inr (.inl h)
      · rw [h]; exact ⟨fun i pb tp => by simp [PV.q], .undef _ _⟩
    · rw [e]
      show nobx ((PV.fl .undef).fcell p) ∧ RC _ _ _ ((PV.fl .undef).fcell p) _
      rw [fcell_undef]; exact ⟨fun i pb tp => by simp [PV.q], .undef _ _⟩
  refine ⟨⟨fun hd p => ?_, fun l l' hd p e => absurd e (noo l hd p), fun l l' i e => absurd e (nop l i), fun l e => ?_, fun l e => ?_⟩, fun t => ?_, fun i => shp_undef _, by simp, rfl, fun _ => rfl, fun _ _ => rfl, fun _ _ => rfl, fun i hi => by simp at hi, fun l i e => absurd e (nop l i), fun l i p e => absurd e (noo l _ _),
    ⟨Nat.le_refl _, fun l _ _ => ⟨rfl, rfl⟩, fun l _ e => by rw [e]; simp, fun l i e => e⟩, fun hd p i pb tp => ?_⟩
  · cases hd with
    | s t => exact (cellOk t p).2
    | x i => rw [fam_x0]; exact .undef _ _
    | b i => simp only [fam, pgetB]; unfold cellAt; split <;> exact .undef _ _
    | h i => simp only [fam, pgetB]; unfold cellAt; split <;> exact .undef _ _
  · rcases e with ⟨hd, p, e⟩ | ⟨i, e⟩
    · exact absurd e (noo l hd p)
    · exact absurd e (nop l i)
  · refine R.core.notNone l fun h => ?_
    unfold ωc at e; rw [h] at e; cases e
  · simp only
    rw [map_fz_pget]
    rcases map_pget args st.sl t with ⟨ht, x, hx, e⟩ | ⟨_, e⟩
    · have hao := argsOk_get hok t (by simpa using ht)
      rw [e] at hao ⊢
      rw [(map_get args us.sl t).1 x hx]
      obtain ⟨hd, _, hs, _⟩ := R.ev x
      exact arg_fz_shp hs hao
    · rw [e]; exact shp_undef _
  · cases hd with
    | s t => exact (cellOk t p).1 i pb tp
    | x j => rw [fam_x0]; simp [PV.q]
    | b j => simp only [fam, pgetB]; unfold cellAt; split <;> simp [PV.q, pget]
    | h j => simp only [fam, pgetB]; unfold cellAt; split <;> simp [PV.q, pget]
theorem args_ok1 (R : RS h0 ω0 ω ρ st us X0) {args : List Opnd} (hok : argsOk (args.map (·.pev st.sl)) = true) : (args.map (·.ev us.sl)).all V.ok1 = true := by
  rw [List.all_eq_true]
  intro u hu
  obtain ⟨x, hx, rfl⟩ := List.mem_map.1 hu
  obtain ⟨t, ht, rfl⟩ := List.getElem_of_mem hx
  obtain ⟨hd, _, hs, hr⟩ := R.ev args[t]
  have hao := argsOk_get hok t (by simpa using ht)
  rcases map_pget args st.sl t with ⟨_, x', hx', e⟩ | ⟨h, _⟩
  · rw [e] at hao
    rw [List.getElem?_eq_getElem ht] at hx'
    cases hx'
    exact arg_V hao hs hr
  · omega
theorem deepE_flat {es : List (List PV)} (h : PV.deepE es = true) (k : Nat) : (pget es.flatten k).deep = true := by
  have app : ∀ (a b : List PV), PV.deepL a = true → PV.deepL b = true → PV.deepL (a ++ b) = true := by
    intro a b
    induction a with
    | nil => intro _ h; exact h
    | cons x s ih => intro h1 h2; simp only [PV.deepL, Bool.and_eq_true, List.cons_append] at h1 ⊢; exact ⟨h1.1, ih h1.2 h2⟩
  have fl : PV.deepL es.flatten = true := by
    induction es with
    | nil => rfl
    | cons e r ih =>
      simp only [PV.deepE, Bool.and_eq_true] at h
      rw [List.flatten_cons]; exact app _ _ h.1 (ih h.2)
  have g : ∀ (cs : List PV) c, PV.deepL cs = true → (pget cs c).deep = true := by
    intro cs
    induction cs with
    | nil => intro c _; rfl
    | cons x r ih =>
      intro c hc
      simp only [PV.deepL, Bool.and_eq_true] at hc
      cases c with
      | zero => exact hc.1
      | succ c => exact ih c hc.2
  exact g _ _ fl
theorem deepL_get {cs : List PV} (h : PV.deepL cs = true) (c : Nat) : (pget cs c).deep = true := by
  induction cs generalizing c with
  | nil => rfl
  | cons x r ih =>
    simp only [PV.deepL, Bool.and_eq_true] at h
    cases c with
    | zero => exact h.1
    | succ c => exact ih h.2 c
theorem deep_fcell {v : PV} (h : v.deep = true) (p : List Nat) : (v.fcell p).deep = true := by
  unfold PV.fcell
  split
  · exact deepL_get h _
  · rfl
  · rename_i vs i c
    have := deepL_get (cs := vs) h i
    generalize pget vs i = w at this
    cases w with
    | agg cs => exact deepL_get (cs := cs) this c
    | _ => cases c <;> first | exact this | rfl
  · rfl
  · exact h
  · rfl
theorem RC.deep {h : Heap} {ω ω1 : Nat → W} (ho : ∀ l a q, ω l = .own a q → ω1 l = .own a q) {m : Md} {v : PV} {u : V} (r : RC h ω m v u) : (∃ hd p, m = .at hd p ∨ m = .inn hd p) → v.deep = true → (∀ i o, v ≠ .ptr i o) → RC h ω1 m v u := by
  induction r with
  | undef => intros; exact .undef _ _
  | v _ x hx => intros; exact .v _ _ hx
  | nil => intros; exact .nil _ _
  | sl m q es l o n b h1 hk hc hne hn hw hle hr ih =>
    rintro ⟨hd, p, hm⟩ hd' hp
    have hq : q = .own ∨ ∃ w, q = .ownw w := by cases q <;> first | exact .inl rfl | exact .inr ⟨_, rfl⟩ | cases hd'
    have hde : PV.deepE es = true := by rcases hq with rfl | ⟨w, rfl⟩ <;> exact hd'
    have hsub : ∀ k, ∃ hd p, m.sub q k = .at hd p ∨ m.sub q k = .inn hd p := by
      intro k; rcases hm with rfl | rfl <;> rcases hq with rfl | ⟨w, rfl⟩ <;> exact ⟨hd, p ++ [k], .inr rfl⟩
    refine .sl _ _ _ _ _ _ b h1 hk ?_ hne hn hw hle fun k hk => ih k hk (hsub k) (deepE_flat hde k) ?_
    · rcases hm with rfl | rfl <;> rcases hq with rfl | ⟨w, rfl⟩ <;> exact ⟨ho l _ _ hc.1, hc.2⟩
    · intro i o e
      have r := hr k hk
      rw [e] at r
      rcases hm with rfl | rfl <;> rcases hq with rfl | ⟨w, rfl⟩ <;> (simp only [Md.sub] at r; cases r)
  | ep => rintro _ hd' _; cases hd'
  | box => intros; exact .box _ _ _
  | ptr hd p i o l hl => rintro _ _ hp; exact absurd rfl (hp i o)
theorem shift_fcell (n : Nat) (v : PV) (p : List Nat) : (v.shift n).fcell p = (v.fcell p).shift n := by
  have gL : ∀ (cs : List PV) c, pget (PV.shiftL n cs) c = (pget cs c).shift n := by
    intro cs
    induction cs with
    | nil => intro c; rfl
    | cons x r ih => intro c; cases c with
      | zero => rfl
      | succ c => exact ih c
  cases v with
  | agg cs =>
    match p with
    | [c] => exact gL cs c
    | [] => rfl
    | _ :: _ :: _ => rfl
  | tup vs =>
    match p with
    | [i, c] =>
      show pget (pget (PV.shiftL n vs) i).cells c = (pget (pget vs i).cells c).shift n
      rw [gL]
      generalize pget vs i = w
      cases w with
      | agg cs => exact gL cs c
      | _ => cases c <;> rfl
    | [] => rfl
    | [_] => rfl
    | _ :: _ :: _ :: _ => rfl
  | _ =>
    match p with
    | [0] => rfl
    | [] => rfl
    | (_ + 1) :: _ => rfl
    | 0 :: _ :: _ => rfl
theorem shiftL_len (n : Nat) (cs : List PV) : (PV.shiftL n cs).length = cs.length := by
  induction cs with
  | nil => rfl
  | cons x r ih => simp [PV.shiftL, ih]
theorem shift_shp1 {n : Nat} {v : PV} {u : V} (h : Shp1 v u) : Shp1 (v.shift n) u := by
  cases v with
  | agg cs => obtain ⟨ws, h1, h2⟩ := h; exact ⟨ws, h1, by rw [shiftL_len]; exact h2⟩
  | tup cs => exact h.elim
  | _ => exact h
theorem shift_shp {n : Nat} {v : PV} {u : V} (h : Shp v u) : Shp (v.shift n) u := by
  cases v with
  | tup cs =>
    obtain ⟨ws, h1, h2, h3⟩ := h
    refine ⟨ws, h1, by rw [shiftL_len]; exact h2, fun i => ?_⟩
    have : pget (PV.shiftL n cs) i = (pget cs i).shift n := by
      clear h2 h3
      induction cs generalizing i with
      | nil => rfl
      | cons x r ih => cases i with
        | zero => rfl
        | succ c => exact ih c
    rw [this]; exact shift_shp1 (h3 i)
  | agg cs => exact shift_shp1 (v := .agg cs) h
  | _ => exact h
theorem shift_q (n : Nat) (v : PV) : (v.shift n).q = v.q ∧ (v.shift n).qo = v.qo := by cases v <;> exact ⟨rfl, rfl⟩
section
variable {h0 : Heap} {ω0 ω ω' : Nat → W} {ρ ρ' : Nat → Nat} {st : PS} {us : St}
def cmb (N n : Nat) (B : Bool) (ω ω' : Nat → W) : Nat → W := fun l => if l < N then (match ω l with
    | .own (.x _) _ => .frz
    | w => w) else match ω' l with
  | .own (.x 0) p => .own (.x 0) p
  | .own (.h i) p => if B then .own (.h (n + i)) p else .frz
  | .own _ _ => .frz
  | .ptr i => if B then .ptr (n + i) else .none
  | w => w
def Ren.cm (n : Nat) (B : Bool) : Ren := fun hd p => match hd with
  | .x 0 => .own (.x 0) p
  | .h i => if B then .own (.h (n + i)) p else .frz
  | _ => .frz
def Ren.nox : Ren := fun hd p => match hd with
  | .x _ => .frz
  | hd => .own hd p
theorem Ren.nox_still {hd : Hd} (h : ∀ i, hd ≠ .x i) : Ren.nox.still hd := fun p => by
  cases hd with
  | x i => exact absurd rfl (h i)
  | _ => rfl
theorem fcell_ptr {v : PV} {p : List Nat} {i o : Nat} (h : v.fcell p = .ptr i o) : v.hasPtr = true := by
  have gL : ∀ (cs : List PV) c, (pget cs c).hasPtr = true → PV.hasPtrL cs = true := by
    intro cs
    induction cs with
    | nil => intro c h; cases h
    | cons x r ih =>
      intro c h
      simp only [PV.hasPtrL, Bool.or_eq_true]
      cases c with
      | zero => exact .inl h
      | succ c => exact .inr (ih c h)
  unfold PV.fcell at h
  split at h
  · exact gL _ _ (by rw [h]; rfl)
  · cases h
  · rename_i vs i c
    refine gL vs i ?_
    generalize pget vs i = w at h
    cases w with
    | agg cs => exact gL cs c (by rw [show (PV.agg cs).cells = cs from rfl] at h; rw [h]; rfl)
    | _ => cases c <;> first | rfl | cases h
  · cases h
  · rw [h]; rfl
  · cases h
theorem shift_id {n : Nat} {c : PV} (h : c.sc) (hp : ∀ i o, c ≠ .ptr i o) : c.shift n = c := by
  cases c with
  | agg cs => exact absurd rfl (h.1 _)
  | tup cs => exact absurd rfl (h.2 _)
  | ptr i o => exact absurd rfl (hp i o)
  | _ => rfl
theorem RS.leave (R : RS h0 ω0 ω ρ st us X0) {dm : Bool} {H' : List (List PV)} {h' : Heap} {r : PV} {u : V} (R' : RS us.hp (ωc dm ω) ω' ρ' ⟨[], [], H'⟩ ⟨[], [], h'⟩ (X1 r u)) (hnob : r.nob) (hdm : dm = true → r.hasPtr = false ∧ r.deep = true) :
    ∃ ω'' ρ'', RS h0 ω0 ω'' ρ'' { st with hp := if r.hasPtr then st.hp ++ H' else st.hp } { us with hp := h' } (X1 (if r.hasPtr then r.shift st.hp.length else r) u) := by
  have hN : us.hp.length ≤ h'.length := R'.fr.len
  generalize hB : r.hasPtr = B at hdm ⊢
  -- old blocks: as they were; the callee's labels on them
  have cfn : ∀ l, ωc dm ω l = .frz ∨ ωc dm ω l = .none := fun l => by
    unfold ωc; split
    · exact .inl rfl
    · cases dm <;> simp
    · exact .inr rfl
  have old : ∀ l, l < us.hp.length → h'[l]? = us.hp[l]? ∧ ω' l = ωc dm ω l := fun l hl => R'.fr.old l hl (cfn l)
  have oldn : ∀ l, l < us.hp.length → ω' l = .frz ∨ ω' l = .none := fun l hl => by rw [(old l hl).2]; exact cfn l
  have newo : ∀ l hd p, ω' l = .own hd p → ¬ l < us.hp.length := fun l hd p e hl => by rcases oldn l hl with h | h <;> rw [h] at e <;> cases e
  have newp : ∀ l i, ω' l = .ptr i → ¬ l < us.hp.length := fun l i e hl => by rcases oldn l hl with h | h <;> rw [h] at e <;> cases e
  have cold : ∀ l, l < us.hp.length → cmb us.hp.length st.hp.length B ω ω' l = Ag.ren Ren.nox (ω l) := fun l hl => by
    simp only [cmb, if_pos hl]
    cases e : ω l with
    | own a q => cases a <;> rfl
    | _ => rfl
  have cnew : ∀ l, ¬ l < us.hp.length → cmb us.hp.length st.hp.length B ω ω' l = (match ω' l with | .own hd p => Ren.cm st.hp.length B hd p | .ptr i => if B then .ptr (st.hp.length + i) else .none | w => w) := fun l hl => by
    simp only [cmb, if_neg hl]
    cases e : ω' l with
    | own a q => cases a <;> first | rfl | (rename_i i; cases i <;> rfl)
    | _ => rfl
  -- what a label behind the call came of
  have dec : ∀ l hd p, cmb us.hp.length st.hp.length B ω ω' l = .own hd p → (l < us.hp.length ∧ ω l = .own hd p ∧ ∀ i, hd ≠ .x i) ∨ (¬ l < us.hp.length ∧ ((hd = .x 0 ∧ ω' l = .own (.x 0) p) ∨ ∃ i, B = true ∧ hd = .h (st.hp.length + i) ∧ ω' l = .own (.h i) p)) := by
    intro l hd p e
    by_cases hl : l < us.hp.length
    · rw [cold l hl] at e
      obtain ⟨a, q, e1, e2⟩ := ren_own e
      cases a with
      | x i => cases e2
      | _ => cases e2; exact .inl ⟨hl, e1, by simp⟩
    · rw [cnew l hl] at e
      cases e1 : ω' l with
      | own a q =>
        rw [e1] at e
        cases a with
        | x i => cases i with
          | zero => cases e; exact .inr ⟨hl, .inl ⟨rfl, rfl⟩⟩
          | succ i => cases e
        | h i =>
          cases hBb : B with
          | true => rw [hBb] at e; cases e; exact .inr ⟨hl, .inr ⟨i, rfl, rfl, rfl⟩⟩
          | false => rw [hBb] at e; cases e
        | _ => cases e
      | ptr i => rw [e1] at e; (try simp only at e); split at e <;> cases e
      | _ => rw [e1] at e; cases e
  have decp : ∀ l i, cmb us.hp.length st.hp.length B ω ω' l = .ptr i → (l < us.hp.length ∧ ω l = .ptr i) ∨ (¬ l < us.hp.length ∧ B = true ∧ ∃ j, i = st.hp.length + j ∧ ω' l = .ptr j) := by
    intro l i e
    by_cases hl : l < us.hp.length
    · rw [cold l hl] at e
      cases e1 : ω l with
      | own a q => rw [e1] at e; cases a <;> cases e
      | ptr j => rw [e1] at e; cases e; exact .inl ⟨hl, rfl⟩
      | _ => rw [e1] at e; cases e
    · rw [cnew l hl] at e
      cases e1 : ω' l with
      | own a q =>
        rw [e1] at e
        cases a with
        | x i => cases i <;> cases e
        | h i => simp only [Ren.cm] at e; split at e <;> cases e
        | _ => cases e
      | ptr j =>
        rw [e1] at e; (try simp only at e)
        split at e
        · rename_i hb; cases e; exact .inr ⟨hl, hb, j, rfl, rfl⟩
        · cases e
      | _ => rw [e1] at e; cases e
  -- the caller's cells
  have tA : Tr us.hp ω h' (cmb us.hp.length st.hp.length B ω ω') Ren.nox (fun _ => False) :=
    ⟨fun l e => by
      have hl := R.core.lt l e
      exact ⟨by rw [cold l hl, e]; rfl, (old l hl).1⟩, fun l hd p e _ => by
      have hl := R.core.notNone l (by rw [e]; simp)
      exact ⟨by rw [cold l hl, e]; rfl, (old l hl).1⟩, fun l i e => by
      have hl := R.core.notNone l (by rw [e]; simp)
      rw [cold l hl, e]; rfl⟩
  have mine : ∀ hd p, (∀ i, hd ≠ .x i) → RC h' (cmb us.hp.length st.hp.length B ω ω') (.at hd p) (fam ρ st us X0 hd p).1 (fam ρ st us X0 hd p).2 := fun hd p hx =>
    (R.core.rc hd p).tr tA (fun _ => ⟨fun _ _ _ => id, fun _ => Ren.nox_still hx _⟩) (fun hb pb tp e => by
      have : Ren.nox.still hb := Ren.nox_still fun i h => by subst h; exact R.nx hd p i pb tp e
      exact ⟨fun _ _ _ => id, fun _ => this, this.soft⟩)
  -- the callee's
  have tB : Tr0 h' (fun l => if l < us.hp.length ∧ dm = true then .none else ω' l) h' (cmb us.hp.length st.hp.length B ω ω') (Ren.cm st.hp.length B) (fun _ => False) :=
    ⟨fun l e => by
      refine ⟨?_, rfl⟩
      try simp only at e
      split at e
      · cases e
      · rename_i hn
        by_cases hl : l < us.hp.length
        · have hd : dm = false := by cases dm; rfl; exact absurd ⟨hl, rfl⟩ hn
          have h2 := (old l hl).2
          rw [e, hd] at h2
          rw [cold l hl]
          unfold ωc at h2
          split at h2
          · rename_i h3; rw [h3]; rfl
          · simp at h2
          · cases h2
        · rw [cnew l hl, e], fun l hd p e _ => by
      refine ⟨?_, rfl⟩
      try simp only at e
      split at e
      · cases e
      · rw [cnew l (newo l hd p e), e]⟩
  have theirs : ∀ {hd hd2 : Hd} {p : List Nat} {c : PV} {x : V}, RC h' ω' (.at hd p) c x → (∀ i o, c ≠ .ptr i o) → (∀ hb pb tp, c.q ≠ some (.bor hb pb tp)) → (dm = true → c.deep = true) → (∀ r, Ren.cm st.hp.length B hd (p ++ r) = .own hd2 (p ++ r)) → RC h' (cmb us.hp.length st.hp.length B ω ω') (.at hd2 p) c x := by
    intro hd hd2 p c x rc hp hb hde hf
    have r1 : RC h' (fun l => if l < us.hp.length ∧ dm = true then .none else ω' l) (.at hd p) c x := by
      cases hd' : dm with
      | true =>
        refine rc.deep (fun l a q e => ?_) ⟨hd, p, .inl rfl⟩ (hde hd') hp
        simp only; rw [if_neg (fun h => newo l a q e h.1)]; exact e
      | false => simpa using rc
    exact r1.tr0 tB (fun _ => ⟨fun _ _ _ => id, hf⟩) (fun hb' pb tp e => absurd e (hb hb' pb tp)) (fun l i o e => absurd e (hp i o))
  have hρ : ∀ k, k < st.hp.length → ρ k < us.hp.length := fun k hk => by obtain ⟨b, h, _⟩ := R.blk hk; exact get_len h
  have hVo : ∀ k, k < st.hp.length → blkcs h' (ρ k) = blkcs us.hp (ρ k) := fun k hk => by simp only [blkcs, (old _ (hρ k hk)).1]
  have hpg : ∀ k, pgetB (if B = true then st.hp ++ H' else st.hp) k = if k < st.hp.length then pgetB st.hp k else if B = true then pgetB H' (k - st.hp.length) else [] := by
    intro k
    cases hBb : B with
    | true =>
      simp only [if_true]
      split
      · rename_i h; rw [pgetB_eq, pgetB_eq, List.getElem?_append_left h]
      · rename_i h; rw [pgetB_eq, pgetB_eq, List.getElem?_append_right (by omega)]
    | false =>
      simp only [Bool.false_eq_true, if_false]
      split
      · rfl
      · rename_i h; rw [pgetB_eq, List.getElem?_eq_none (by omega)]; rfl
  have hlenB : (if B = true then st.hp ++ H' else st.hp).length = if B = true then st.hp.length + H'.length else st.hp.length := by split <;> simp
  refine ⟨cmb us.hp.length st.hp.length B ω ω', fun i => if i < st.hp.length then ρ i else ρ' (i - st.hp.length), ⟨fun hd p => ?_, fun l l' hd p e e' => ?_, fun l l' i e e' => ?_, fun l e => ?_, fun l e => ?_⟩, R.sh, fun i => ?_, R.lsl, R.lbx, R.lb, R.cb, fun i c => ?_, fun i hi => ?_, fun l i e => ?_, fun l i p e => ?_, ⟨?_, fun l hl e => ?_, fun l hl e => ?_, fun l i e => ?_⟩, fun hd p i pb tp => ?_⟩
  · cases hd with
    | s t => exact mine (.s t) p (by simp)
    | b i => exact mine (.b i) p (by simp)
    | x i =>
      by_cases hi : i = 0
      · subst hi
        have rc := R'.core.rc (.x 0) p
        have rc' : RC h' ω' (.at (.x 0) p) (r.fcell p) (u.fcell p) := rc
        show RC h' _ _ ((if B = true then r.shift st.hp.length else r).fcell p) (u.fcell p)
        by_cases hptr : ∃ i o, r.fcell p = .ptr i o
        · obtain ⟨i, o, hp⟩ := hptr
          have hBt : B = true := by rw [← hB]; exact fcell_ptr hp
          rw [if_pos hBt, shift_fcell, hp]
          rw [hp] at rc'
          generalize u.fcell p = z at rc'
          cases rc' with
          | ptr _ _ _ _ l hl => exact .ptr _ _ _ _ _ (by rw [cnew l (newp l i hl), hl]; simp [hBt])
        · have hnp : ∀ i o, r.fcell p ≠ .ptr i o := fun i o h => hptr ⟨i, o, h⟩
          have hsh : (if B = true then r.shift st.hp.length else r).fcell p = r.fcell p := by
            split
            · rw [shift_fcell]; exact shift_id rc'.sc hnp
            · rfl
          rw [hsh]
          exact theirs rc' hnp (hnob p) (fun hd => deep_fcell (hdm hd).2 p) (fun _ => rfl)
      · simp only [fam, X1_1 _ _ i hi, fcell_undef]; exact .undef _ _
    | h i =>
      simp only [fam, hpg]
      by_cases hi : i < st.hp.length
      · simp only [if_pos hi, hVo i hi]
        exact mine (.h i) p (by simp)
      · simp only [if_neg hi]
        cases hBb : B with
        | false => simp only [Bool.false_eq_true, if_false]; unfold cellAt; split <;> exact .undef _ _
        | true =>
          simp only [if_true]
          have rc := R'.core.rc (.h (i - st.hp.length)) p
          have rc' : RC h' ω' (.at (.h (i - st.hp.length)) p) (cellAt (pgetB H' (i - st.hp.length)) (blkcs h' (ρ' (i - st.hp.length))) p).1 (cellAt (pgetB H' (i - st.hp.length)) (blkcs h' (ρ' (i - st.hp.length))) p).2 := rc
          have hlay := cellAt_lay (ws := blkcs h' (ρ' (i - st.hp.length))) (R'.ch (i - st.hp.length)) p
          have := theirs (hd2 := .h i) rc' (fun a b h => by rw [h] at hlay; cases hlay) (fun hb pb tp => lay_q hlay hb pb tp) (fun hd => by have := (hdm hd).1; rw [hBb] at this; cases this) (fun r => by simp only [Ren.cm, hBb, if_true]; rw [show st.hp.length + (i - st.hp.length) = i by omega])
          rw [hBb] at this
          exact this
  · rcases dec l hd p e with ⟨a1, a2, a3⟩ | ⟨a1, a2⟩
    · rcases dec l' hd p e' with ⟨b1, b2, b3⟩ | ⟨b1, b2⟩
      · exact R.core.inj l l' hd p a2 b2
      · rcases b2 with ⟨rfl, _⟩ | ⟨i, _, rfl, _⟩
        · exact absurd rfl (a3 0)
        · have := R.bdh l _ p a2; omega
    · rcases dec l' hd p e' with ⟨b1, b2, b3⟩ | ⟨b1, b2⟩
      · rcases a2 with ⟨rfl, _⟩ | ⟨i, _, rfl, _⟩
        · exact absurd rfl (b3 0)
        · have := R.bdh l' _ p b2; omega
      · rcases a2 with ⟨rfl, c⟩ | ⟨i, _, rfl, c⟩
        · rcases b2 with ⟨_, d⟩ | ⟨j, _, hh, _⟩
          · exact R'.core.inj l l' _ p c d
          · cases hh
        · rcases b2 with ⟨hh, _⟩ | ⟨j, _, hh, d⟩
          · cases hh
          · have : i = j := by simp at hh; exact hh
            subst this; exact R'.core.inj l l' _ p c d
  · rcases decp l i e with ⟨_, a⟩ | ⟨_, _, j, hj, a⟩
    · rcases decp l' i e' with ⟨_, b⟩ | ⟨_, _, k, hk, b⟩
      · exact R.core.injp l l' i a b
      · have := R.bdp l i a; omega
    · rcases decp l' i e' with ⟨_, b⟩ | ⟨_, _, k, hk, b⟩
      · have := R.bdp l' i b; omega
      · have : j = k := by omega
        subst this; exact R'.core.injp l l' j a b
  · have hh : (l < us.hp.length ∧ ((∃ hd p, ω l = .own hd p) ∨ ∃ i, ω l = .ptr i)) ∨ ((∃ hd p, ω' l = .own hd p) ∨ ∃ i, ω' l = .ptr i) := by
      rcases e with ⟨hd, p, e⟩ | ⟨i, e⟩
      · rcases dec l hd p e with ⟨a1, a2, a3⟩ | ⟨a1, ⟨_, c⟩ | ⟨i, _, _, c⟩⟩
        · exact .inl ⟨a1, .inl ⟨_, _, a2⟩⟩
        · exact .inr (.inl ⟨_, _, c⟩)
        · exact .inr (.inl ⟨_, _, c⟩)
      · rcases decp l i e with ⟨a1, a⟩ | ⟨_, _, j, hj, a⟩
        · exact .inl ⟨a1, .inr ⟨_, a⟩⟩
        · exact .inr (.inr ⟨_, a⟩)
    rcases hh with ⟨hl, hh⟩ | hh
    · obtain ⟨b, h1, h2⟩ := R.core.kind l hh
      exact ⟨b, by rw [← h1]; exact (old l hl).1, h2⟩
    · exact R'.core.kind l hh
  · by_cases hl : l < us.hp.length
    · exact Nat.lt_of_lt_of_le hl hN
    · rw [cnew l hl] at e
      have : ω' l ≠ .none := by intro h; rw [h] at e; cases e
      exact R'.core.notNone l this
  · by_cases hi : i = 0
    · subst hi
      have : Shp r u := R'.shx 0
      show Shp (if B = true then r.shift st.hp.length else r) u
      split
      · exact shift_shp this
      · exact this
    · rw [X1_1 _ _ i hi]; exact shp_undef _
  · simp only [hpg]
    split
    · exact R.ch i c
    · split
      · exact R'.ch _ c
      · rfl
  · simp only [hlenB] at hi
    simp only [hpg]
    by_cases hlt : i < st.hp.length
    · simp only [if_pos hlt]
      rw [cold _ (hρ i hlt), (R.hp i hlt).1, hVo i hlt]
      exact ⟨rfl, (R.hp i hlt).2⟩
    · simp only [if_neg hlt]
      split at hi
      · rename_i hBt
        obtain ⟨a, b⟩ := R'.hp (i - st.hp.length) (by simp only; omega)
        rw [if_pos hBt, cnew _ (newp _ _ a), a]
        refine ⟨by simp [hBt]; omega, b⟩
      · omega
  · simp only [hlenB]
    rcases decp l i e with ⟨_, a⟩ | ⟨_, hBt, j, hj, a⟩
    · have := R.bdp l i a; split <;> omega
    · have := R'.bdp l j a
      simp only at this
      rw [if_pos hBt]; omega
  · simp only [hlenB]
    rcases dec l (.h i) p e with ⟨_, a, _⟩ | ⟨_, ⟨hh, _⟩ | ⟨j, hBt, hh, a⟩⟩
    · have := R.bdh l i p a; split <;> omega
    · cases hh
    · have := R'.bdh l j p a
      simp only at this
      simp at hh
      rw [if_pos hBt]; omega
  · exact Nat.le_trans R.fr.len hN
  · obtain ⟨a, b⟩ := R.fr.old l hl e
    have hlt : l < us.hp.length := Nat.lt_of_lt_of_le hl R.fr.len
    refine ⟨by rw [← a]; exact (old l hlt).1, ?_⟩
    rw [cold l hlt, b]
    rcases e with e | e <;> rw [e] <;> rfl
  · have hlt : l < us.hp.length := Nat.lt_of_lt_of_le hl R.fr.len
    rw [cold l hlt] at e
    exact (R.fr.ren Ren.nox).new l hl e
  · have e1 := R.fr.ptr l i e
    have hlt := R.core.notNone l (by rw [e1]; simp)
    rw [cold l hlt, e1]; rfl
  · cases hd with
    | s t => exact R.nx (.s t) p i pb tp
    | b k => exact R.nx (.b k) p i pb tp
    | x k =>
      by_cases hk : k = 0
      · subst hk
        show ((if B = true then r.shift st.hp.length else r).fcell p).q ≠ _
        split
        · rw [shift_fcell, (shift_q _ _).1]; exact hnob p _ _ _
        · exact hnob p _ _ _
      · rw [fam_x1 k hk]; simp [PV.q]
    | h k =>
      simp only [fam, hpg]
      refine lay_q (cellAt_lay (fun c => ?_) p) _ _ _
      split
      · exact R.ch k c
      · split
        · exact R'.ch _ c
        · rfl
end
end
section
variable {h0 : Heap} {ω0 ω ω' : Nat → W} {ρ ρ' : Nat → Nat} {st : PS} {us : St}
def ωp (ω : Nat → W) : Nat → W := fun l => match ω l with
  | .frz => .frz
  | .own (.h i) p => .own (.h i) p
  | .ptr i => .ptr i
  | _ => .none
theorem ωp_frz {l : Nat} (e : ωp ω l = .frz) : ω l = .frz := by
  unfold ωp at e; split at e <;> first | assumption | cases e
theorem ωp_own {l : Nat} {hd : Hd} {p : List Nat} (e : ωp ω l = .own hd p) : ω l = .own hd p ∧ ∃ i, hd = .h i := by
  unfold ωp at e
  split at e
  · cases e
  · rename_i i q h; cases e; exact ⟨h, i, rfl⟩
  · cases e
  · cases e
theorem ωp_ptr {l i : Nat} (e : ωp ω l = .ptr i) : ω l = .ptr i := by
  unfold ωp at e
  split at e
  · cases e
  · cases e
  · rename_i j h; cases e; exact h
  · cases e
theorem isH_cell {v : PV} (h : v.isH = false) (p : List Nat) : ∀ i pb tp, (v.fcell p).q ≠ some (.bor (.h i) pb tp) := by
  have one : ∀ {w : PV}, w.isH = false → ∀ i pb tp, w.q ≠ some (.bor (.h i) pb tp) := by
    intro w hw i pb tp e
    cases w with
    | sl q es => cases q <;> simp [PV.q] at e <;> (obtain ⟨rfl, _⟩ := e; cases hw)
    | ep q es j o => cases q <;> simp [PV.q] at e <;> (obtain ⟨rfl, _⟩ := e; cases hw)
    | _ => simp [PV.q] at e
  have lst : ∀ (cs : List PV) c, PV.isHL cs = false → (pget cs c).isH = false := by
    intro cs
    induction cs with
    | nil => intro c _; rfl
    | cons x r ih =>
      intro c hc
      simp only [PV.isHL, Bool.or_eq_false_iff] at hc
      cases c with
      | zero => exact hc.1
      | succ c => exact ih c hc.2
  unfold PV.fcell
  split
  · exact one (lst _ _ h)
  · exact one rfl
  · rename_i vs i c
    have := lst vs i h
    generalize pget vs i = w at this
    cases w with
    | agg cs => exact one (lst cs c this)
    | _ => cases c <;> first | exact one this | exact one rfl
  · exact one rfl
  · exact one h
  · exact one rfl
theorem pget_clrH (s : List PV) (n : Nat) : pget (clrH s) n = if (pget s n).isH then .fl .undef else pget s n := by
  induction s generalizing n with
  | nil => rfl
  | cons x r ih => cases n with
    | zero => rfl
    | succ n => exact ih n
theorem RS.enterP (R : RS h0 ω0 ω ρ st us X0) {args : List Opnd} (hok : argsOk (args.map (·.pev st.sl)) = true) (hh : (args.map (·.pev st.sl)).all (fun v => !v.hold) = true) :
    RS us.hp (ωp ω) (ωp ω) ρ ⟨(args.map (·.pev st.sl)).map PV.fz, [], st.hp⟩ ⟨args.map (·.ev us.sl), [], us.hp⟩ X0 := by
  have hf : ∀ l, ω l = .frz → ωp ω l = .frz := fun l e => by simp [ωp, e]
  have cellOk : ∀ t p, nobx ((pget ((args.map (·.pev st.sl)).map PV.fz) t).fcell p) ∧ RC us.hp (ωp ω) (.at (.s t) p) ((pget ((args.map (·.pev st.sl)).map PV.fz) t).fcell p) ((get (args.map (·.ev us.sl)) t).fcell p) := by
    intro t p
    rw [map_fz_pget]
    rcases map_pget args st.sl t with ⟨ht, x, hx, e⟩ | ⟨_, e⟩
    · have hao := argsOk_get hok t (by simpa using ht)
      rw [e] at hao ⊢
      rw [(map_get args us.sl t).1 x hx]
      obtain ⟨hd, _, _, hr⟩ := R.ev x
      obtain ⟨g1, g2, g3⟩ := arg_cell hao p
      rcases fz_fcell (x.pev st.sl) p with h | h
      · rw [h]
        refine ⟨fun i pb tp e' => ?_, ?_⟩
        · generalize (x.pev st.sl).fcell p = w at e'
          cases w <;> simp [PV.fz, PV.q] at e'
        · have hq : ((x.pev st.sl).fcell p).q = none ∨ ((x.pev st.sl).fcell p).q = some .frz := by
            have hh := List.all_eq_true.1 hh (x.pev st.sl) (List.mem_map.2 ⟨x, List.mem_of_getElem? hx, rfl⟩)
            exact g2 (by simpa using hh)
          by_cases hp : ∃ i o, (x.pev st.sl).fcell p = .ptr i o
          · obtain ⟨i, o, hp⟩ := hp
            have hr := hr p
            rw [hp] at hr ⊢
            generalize (x.ev us.sl).fcell p = z at hr
            cases hr with
            | ptr _ _ _ _ l hl => exact .ptr _ _ _ _ l (by simp [ωp, hl])
          · refine (hr p).fzA (fun i o h => hp ⟨i, o, h⟩) hf ?_
            rcases hq with h | h
            · exact .inl h
            · exact .inr (.inl h)
      · rw [h]; exact ⟨fun i pb tp => by simp [PV.q], .undef _ _⟩
    · rw [e]
      show nobx ((PV.fl .undef).fcell p) ∧ RC _ _ _ ((PV.fl .undef).fcell p) _
      rw [fcell_undef]; exact ⟨fun i pb tp => by simp [PV.q], .undef _ _⟩
  have t : Tr0 us.hp ω us.hp (ωp ω) Ren.id (fun l => ∃ hd p, ω l = .own hd p ∧ ∀ i, hd ≠ .h i) := ⟨fun l e => ⟨hf l e, rfl⟩, fun l hd p e hT => by
    refine ⟨?_, rfl⟩
    cases hd with
    | h i => simp [ωp, e, Ren.id]
    | s i => exact absurd ⟨_, _, e, by simp⟩ hT
    | b i => exact absurd ⟨_, _, e, by simp⟩ hT
    | x i => exact absurd ⟨_, _, e, by simp⟩ hT⟩
  have blk : ∀ i p, RC us.hp (ωp ω) (.at (.h i) p) (cellAt (pgetB st.hp i) (blkcs us.hp (ρ i)) p).1 (cellAt (pgetB st.hp i) (blkcs us.hp (ρ i)) p).2 := by
    intro i p
    have r := R.core.rc (.h i) p
    have hlay := cellAt_lay (ws := blkcs us.hp (ρ i)) (R.ch i) p
    refine RC.tr0 t (show RC us.hp ω (.at (.h i) p) _ _ from r) (fun _ => ⟨fun l q e => ?_, fun _ => rfl⟩) (fun hb pb tp e => absurd e (lay_q hlay hb pb tp)) (fun l j o e _ => by rw [e] at hlay; cases hlay)
    rintro ⟨hd, p', e', hne⟩
    rw [e] at e'; cases e'; exact hne i rfl
  refine ⟨⟨fun hd p => ?_, fun l l' hd p e e' => R.core.inj l l' hd p (ωp_own e).1 (ωp_own e').1, fun l l' i e e' => R.core.injp l l' i (ωp_ptr e) (ωp_ptr e'), fun l e => ?_, fun l e => R.core.lt l (ωp_frz e)⟩, fun t => ?_, fun i => shp_undef _, by simp, rfl, fun _ => rfl, fun _ _ => rfl, R.ch, fun i hi => ?_, fun l i e => R.bdp l i (ωp_ptr e), fun l i p e => R.bdh l i p (ωp_own e).1,
    ⟨Nat.le_refl _, fun l _ _ => ⟨rfl, rfl⟩, fun l _ e => by rw [e]; simp, fun l i e => e⟩, fun hd p i pb tp => ?_⟩
  · cases hd with
    | s t => exact (cellOk t p).2
    | x i => rw [fam_x0]; exact .undef _ _
    | b i => simp only [fam, pgetB]; unfold cellAt; split <;> exact .undef _ _
    | h i => exact blk i p
  · rcases e with ⟨hd, p, e⟩ | ⟨i, e⟩
    · exact R.core.kind l (.inl ⟨hd, p, (ωp_own e).1⟩)
    · exact R.core.kind l (.inr ⟨i, ωp_ptr e⟩)
  · simp only
    rw [map_fz_pget]
    rcases map_pget args st.sl t with ⟨ht, x, hx, e⟩ | ⟨_, e⟩
    · have hao := argsOk_get hok t (by simpa using ht)
      rw [e] at hao ⊢
      rw [(map_get args us.sl t).1 x hx]
      obtain ⟨hd, _, hs, _⟩ := R.ev x
      exact arg_fz_shp hs hao
    · rw [e]; exact shp_undef _
  · obtain ⟨h1, h2⟩ := R.hp i hi
    exact ⟨by simp [ωp, h1], h2⟩
  · cases hd with
    | s t => exact (cellOk t p).1 i pb tp
    | x j => rw [fam_x0]; simp [PV.q]
    | b j => simp only [fam, pgetB]; unfold cellAt; split <;> simp [PV.q, pget]
    | h j => exact lay_q (cellAt_lay (ws := blkcs us.hp (ρ j)) (R.ch j) p) _ _ _
def lab : W → W
  | .own (.x 0) p => .own (.x 0) p
  | .own (.h i) p => .own (.h i) p
  | .own _ _ => .frz
  | w => w
def Ren.lab : Ren := fun hd p => match hd with
  | .x 0 => .own (.x 0) p
  | .h i => .own (.h i) p
  | _ => .frz
def cmp (N : Nat) (ω ω' : Nat → W) : Nat → W := fun l => if l < N then (match ω l with
    | .own (.s t) p => .own (.s t) p
    | .own (.b t) p => .own (.b t) p
    | .own (.x _) _ => .frz
    | .own (.h _) _ => lab (ω' l)
    | .ptr _ => lab (ω' l)
    | w => w) else lab (ω' l)
theorem lab_own {w : W} {hd : Hd} {p : List Nat} (e : lab w = .own hd p) : w = .own hd p ∧ (hd = .x 0 ∨ ∃ i, hd = .h i) := by
  unfold lab at e
  split at e
  · cases e; exact ⟨rfl, .inl rfl⟩
  · rename_i i q; cases e; exact ⟨rfl, .inr ⟨i, rfl⟩⟩
  · cases e
  · rename_i h1 h2 h3; subst e; exact absurd rfl (h3 _ _)
theorem lab_ptr {w : W} {i : Nat} (e : lab w = .ptr i) : w = .ptr i := by
  unfold lab at e
  split at e <;> first | (cases e; done) | exact e
theorem lab_ren {hd : Hd} {p : List Nat} : lab (.own hd p) = Ren.lab hd p := by
  cases hd with
  | x i => cases i <;> rfl
  | _ => rfl
theorem RS.leaveP (R : RS h0 ω0 ω ρ st us X0) {H' : List (List PV)} {h' : Heap} {r : PV} {u : V} (R' : RS us.hp (ωp ω) ω' ρ' ⟨[], [], H'⟩ ⟨[], [], h'⟩ (X1 r u)) (hnob : r.nob) (hnp : r.hasPtr = false) (_hl : st.hp.length ≤ H'.length) :
    ∃ ω'' ρ'', RS h0 ω0 ω'' ρ'' { st with sl := clrH st.sl, hp := H' } { us with hp := h' } (X1 r u) := by
  have hN : us.hp.length ≤ h'.length := R'.fr.len
  have old : ∀ l, l < us.hp.length → (ωp ω l = .frz ∨ ωp ω l = .none) → h'[l]? = us.hp[l]? ∧ ω' l = ωp ω l := fun l hl e => R'.fr.old l hl e
  have lt : ∀ l, ω l ≠ .none → l < us.hp.length := fun l h => R.core.notNone l h
  -- the labels, case by case
  have cF : ∀ l, ω l = .frz → cmp us.hp.length ω ω' l = .frz ∧ h'[l]? = us.hp[l]? := fun l e => by
    have hl := lt l (by rw [e]; simp)
    exact ⟨by simp [cmp, hl, e], (old l hl (.inl (by simp [ωp, e]))).1⟩
  have cS : ∀ l t p, ω l = .own (.s t) p → cmp us.hp.length ω ω' l = .own (.s t) p ∧ h'[l]? = us.hp[l]? := fun l t p e => by
    have hl := lt l (by rw [e]; simp)
    exact ⟨by simp [cmp, hl, e], (old l hl (.inr (by simp [ωp, e]))).1⟩
  have cB : ∀ l t p, ω l = .own (.b t) p → cmp us.hp.length ω ω' l = .own (.b t) p ∧ h'[l]? = us.hp[l]? := fun l t p e => by
    have hl := lt l (by rw [e]; simp)
    exact ⟨by simp [cmp, hl, e], (old l hl (.inr (by simp [ωp, e]))).1⟩
  have cX : ∀ l t p, ω l = .own (.x t) p → cmp us.hp.length ω ω' l = .frz ∧ h'[l]? = us.hp[l]? := fun l t p e => by
    have hl := lt l (by rw [e]; simp)
    exact ⟨by simp [cmp, hl, e], (old l hl (.inr (by simp [ωp, e]))).1⟩
  have cP : ∀ l i, ω l = .ptr i → cmp us.hp.length ω ω' l = .ptr i := fun l i e => by
    have hl := lt l (by rw [e]; simp)
    have := R'.fr.ptr l i (by simp [ωp, e])
    simp [cmp, hl, e, this, lab]
  -- what the callee says of a block: it is the callee's own or the heap's
  have theirs : ∀ l, ω' l ≠ .none → ω' l = .frz ∧ cmp us.hp.length ω ω' l = .frz ∨ cmp us.hp.length ω ω' l = lab (ω' l) := fun l hne => by
    by_cases hl : l < us.hp.length
    · cases e : ω l with
      | none => exact absurd (by rw [(old l hl (.inr (by simp [ωp, e]))).2]; simp [ωp, e]) hne
      | frz => exact .inl ⟨by rw [(old l hl (.inl (by simp [ωp, e]))).2]; simp [ωp, e], (cF l e).1⟩
      | ptr i => exact .inr (by simp [cmp, hl, e])
      | own hd p =>
        cases hd with
        | h i => exact .inr (by simp [cmp, hl, e])
        | s i => exact absurd (by rw [(old l hl (.inr (by simp [ωp, e]))).2]; simp [ωp, e]) hne
        | b i => exact absurd (by rw [(old l hl (.inr (by simp [ωp, e]))).2]; simp [ωp, e]) hne
        | x i => exact absurd (by rw [(old l hl (.inr (by simp [ωp, e]))).2]; simp [ωp, e]) hne
    · exact .inr (by simp [cmp, hl])
  -- a label behind the call
  have dec : ∀ l hd p, cmp us.hp.length ω ω' l = .own hd p → (ω l = .own hd p ∧ (∃ t, hd = .s t ∨ hd = .b t)) ∨ (ω' l = .own hd p ∧ (hd = .x 0 ∨ ∃ i, hd = .h i)) := by
    intro l hd p e
    unfold cmp at e
    split at e
    · split at e
      · rename_i t q h; cases e; exact .inl ⟨h, t, .inl rfl⟩
      · rename_i t q h; cases e; exact .inl ⟨h, t, .inr rfl⟩
      · cases e
      · exact .inr (lab_own e)
      · exact .inr (lab_own e)
      · rename_i h1 h2 h3 h4 h5
        exfalso
        rw [e] at h1 h2 h3 h4
        cases hd with
        | s t => exact h1 _ _ rfl
        | b t => exact h2 _ _ rfl
        | x t => exact h3 _ _ rfl
        | h t => exact h4 _ _ rfl
    · exact .inr (lab_own e)
  have decp : ∀ l i, cmp us.hp.length ω ω' l = .ptr i → ω' l = .ptr i := by
    intro l i e
    unfold cmp at e
    split at e
    · split at e
      · cases e
      · cases e
      · cases e
      · exact lab_ptr e
      · exact lab_ptr e
      · rename_i h1 h2 h3 h4 h5
        exact absurd e (h5 i)
    · exact lab_ptr e
  have decf : ∀ l, cmp us.hp.length ω ω' l = .frz → l < h'.length := by
    intro l e
    by_cases hl : l < us.hp.length
    · omega
    · have : ω' l ≠ .none := by intro h; simp [cmp, hl, h, lab] at e
      exact R'.core.notNone l this
  have tA : Tr0 us.hp ω h' (cmp us.hp.length ω ω') Ren.nox (fun l => ∃ i p, ω l = .own (.h i) p) :=
    ⟨cF, fun l hd p e hT => by
      cases hd with
      | s t => exact cS l t p e
      | b t => exact cB l t p e
      | x t => exact cX l t p e
      | h t => exact absurd ⟨t, p, e⟩ hT⟩
  have mine : ∀ {hd : Hd} {p : List Nat} {v : PV} {z : V}, (∃ t, hd = .s t ∨ hd = .b t) → RC us.hp ω (.at hd p) v z → (∀ i pb tp, v.q ≠ some (.bor (.x i) pb tp)) → (∀ i pb tp, v.q ≠ some (.bor (.h i) pb tp)) → RC h' (cmp us.hp.length ω ω') (.at hd p) v z := by
    intro hd p v z hhd rc h1 h2
    refine rc.tr0 tA (fun _ => ⟨fun l q e => ?_, fun q => ?_⟩) (fun hb pb tp e => ⟨fun l q e' => ?_, fun _ => ?_, ?_⟩) (fun l i o _ e => cP l i e)
    · rintro ⟨i, q', e'⟩
      rw [e] at e'; cases e'
      obtain ⟨t, h | h⟩ := hhd <;> cases h
    · obtain ⟨t, rfl | rfl⟩ := hhd <;> rfl
    · rintro ⟨i, q', e2⟩
      rw [e'] at e2; cases e2
      exact h2 _ _ _ e
    · exact Ren.nox_still fun i h => by subst h; exact h1 _ _ _ e
    · exact (Ren.nox_still fun i h => by subst h; exact h1 _ _ _ e).soft
  have tB : Tr0 h' ω' h' (cmp us.hp.length ω ω') Ren.lab (fun _ => False) :=
    ⟨fun l e => by
      refine ⟨?_, rfl⟩
      rcases theirs l (by rw [e]; simp) with ⟨_, h⟩ | h
      · exact h
      · rw [h, e]; rfl, fun l hd p e _ => by
      refine ⟨?_, rfl⟩
      rcases theirs l (by rw [e]; simp) with ⟨h, _⟩ | h
      · rw [h] at e; cases e
      · rw [h, e, lab_ren]⟩
  have his : ∀ {hd : Hd} {p : List Nat} {v : PV} {z : V}, (hd = .x 0 ∨ ∃ i, hd = .h i) → RC h' ω' (.at hd p) v z → (∀ i o, v ≠ .ptr i o) → (∀ hb pb tp, v.q ≠ some (.bor hb pb tp)) → RC h' (cmp us.hp.length ω ω') (.at hd p) v z := by
    intro hd p v z hhd rc hp hb
    refine rc.tr0 tB (fun _ => ⟨fun _ _ _ => id, fun q => ?_⟩) (fun hb' pb tp e => absurd e (hb hb' pb tp)) (fun l i o e => absurd e (hp i o))
    obtain rfl | ⟨i, rfl⟩ := hhd <;> rfl
  refine ⟨cmp us.hp.length ω ω', ρ', ⟨fun hd p => ?_, fun l l' hd p e e' => ?_, fun l l' i e e' => R'.core.injp l l' i (decp l i e) (decp l' i e'), fun l e => ?_, decf⟩, fun t => ?_, fun i => ?_, by simpa [clrH_len] using R.lsl, R.lbx, R.lb, R.cb, R'.ch, fun i hi => ?_, fun l i e => R'.bdp l i (decp l i e), fun l i p e => ?_, ⟨?_, fun l hl e => ?_, fun l hl e => ?_, fun l i e => ?_⟩, fun hd p i pb tp => ?_⟩
  · cases hd with
    | s t =>
      show RC h' _ _ ((pget (clrH st.sl) t).fcell p) _
      rw [pget_clrH]
      split
      · rw [fcell_undef]; exact .undef _ _
      · rename_i hh
        exact mine ⟨t, .inl rfl⟩ (R.core.rc (.s t) p) (fun i pb tp => R.nx (.s t) p i pb tp) (isH_cell (by simpa using hh) p)
    | b t =>
      have hlay := cellAt_lay (ws := getB us.bx t) (R.cb t) p
      exact mine ⟨t, .inr rfl⟩ (R.core.rc (.b t) p) (fun i pb tp => lay_q hlay _ _ _) (fun i pb tp => lay_q hlay _ _ _)
    | x i =>
      by_cases hi : i = 0
      · subst hi
        exact his (.inl rfl) (R'.core.rc (.x 0) p) (fun i o h => by have := fcell_ptr (v := r) (p := p) h; rw [hnp] at this; cases this) (fun hb pb tp => hnob p hb pb tp)
      · simp only [fam, X1_1 _ _ i hi, fcell_undef]; exact .undef _ _
    | h i =>
      have hlay : (cellAt (pgetB H' i) (blkcs h' (ρ' i)) p).1.lay = true := cellAt_lay (ws := blkcs h' (ρ' i)) (R'.ch i) p
      exact his (.inr ⟨i, rfl⟩) (R'.core.rc (.h i) p) (fun a b h => by
        have h : (cellAt (pgetB H' i) (blkcs h' (ρ' i)) p).1 = .ptr a b := h
        rw [h] at hlay; cases hlay) (fun hb pb tp => lay_q hlay hb pb tp)
  · rcases dec l hd p e with ⟨a, t, ht⟩ | ⟨a, ht⟩
    · rcases dec l' hd p e' with ⟨b, _⟩ | ⟨b, hb⟩
      · exact R.core.inj l l' hd p a b
      · rcases ht with rfl | rfl <;> rcases hb with hb | ⟨i, hb⟩ <;> cases hb
    · rcases dec l' hd p e' with ⟨b, t, hb⟩ | ⟨b, _⟩
      · rcases hb with rfl | rfl <;> rcases ht with ht | ⟨i, ht⟩ <;> cases ht
      · exact R'.core.inj l l' hd p a b
  · rcases e with ⟨hd, p, e⟩ | ⟨i, e⟩
    · rcases dec l hd p e with ⟨a, t, ht⟩ | ⟨a, _⟩
      · obtain ⟨b, h1, h2⟩ := R.core.kind l (.inl ⟨hd, p, a⟩)
        refine ⟨b, ?_, h2⟩
        rcases ht with rfl | rfl
        · rw [(cS l t p a).2]; exact h1
        · rw [(cB l t p a).2]; exact h1
      · exact R'.core.kind l (.inl ⟨hd, p, a⟩)
    · exact R'.core.kind l (.inr ⟨i, decp l i e⟩)
  · show Shp (pget (clrH st.sl) t) (get us.sl t)
    rw [pget_clrH]
    split
    · exact shp_undef _
    · exact R.sh t
  · by_cases hi : i = 0
    · subst hi; exact R'.shx 0
    · rw [X1_1 _ _ i hi]; exact shp_undef _
  · obtain ⟨a, b⟩ := R'.hp i hi
    refine ⟨?_, b⟩
    rcases theirs (ρ' i) (by rw [a]; simp) with ⟨h, _⟩ | h
    · rw [h] at a; cases a
    · rw [h, a]; rfl
  · rcases dec l (.h i) p e with ⟨_, t, h | h⟩ | ⟨a, _⟩
    · cases h
    · cases h
    · exact R'.bdh l i p a
  · exact Nat.le_trans R.fr.len hN
  · obtain ⟨a, b⟩ := R.fr.old l hl e
    have hlt : l < us.hp.length := Nat.lt_of_lt_of_le hl R.fr.len
    rcases e with e | e
    · rw [e] at b
      obtain ⟨c1, c2⟩ := cF l b
      exact ⟨by rw [c2]; exact a, by rw [c1, e]⟩
    · rw [e] at b
      refine ⟨by rw [(old l hlt (.inr (by simp [ωp, b]))).1]; exact a, ?_⟩
      rw [e]; simp [cmp, hlt, b]
  · intro h0e
    obtain ⟨a, b⟩ := R.fr.old l hl (.inr h0e)
    have hlt : l < us.hp.length := Nat.lt_of_lt_of_le hl R.fr.len
    rw [h0e] at b
    simp [cmp, hlt, b] at e
  · exact cP l i (R.fr.ptr l i e)
  · cases hd with
    | s t =>
      show ((pget (clrH st.sl) t).fcell p).q ≠ _
      rw [pget_clrH]
      split
      · rw [fcell_undef]; simp [PV.q]
      · exact R.nx (.s t) p i pb tp
    | b k => exact R.nx (.b k) p i pb tp
    | x k =>
      by_cases hk : k = 0
      · subst hk; exact hnob p _ _ _
      · rw [fam_x1 k hk]; simp [PV.q]
    | h k => exact lay_q (cellAt_lay (ws := blkcs h' (ρ' k)) (R'.ch k) p) _ _ _
end
structure Only (S : Nat → Prop) (h h' : Heap) : Prop where
  len : h'.length = h.length
  off : ∀ l, ¬ S l → h'[l]? = h[l]?
  blk : ∀ (l : Nat) (b : Blk), h[l]? = some b → ∃ b' : Blk, h'[l]? = some b' ∧ b'.k = b.k ∧ b'.w = b.w ∧ b'.cs.length = b.cs.length
theorem Only.refl (S : Nat → Prop) (h : Heap) : Only S h h := ⟨rfl, fun _ _ => rfl, fun _ b hb => ⟨b, hb, rfl, rfl, rfl⟩⟩
theorem Only.mono {S T : Nat → Prop} {h h' : Heap} (o : Only S h h') (hs : ∀ l, S l → T l) : Only T h h' := ⟨o.len, fun l hl => o.off l fun h => hl (hs l h), o.blk⟩
theorem Only.trans {S : Nat → Prop} {h h' h'' : Heap} (o : Only S h h') (o' : Only S h' h'') : Only S h h'' :=
  ⟨o'.len.trans o.len, fun l hl => (o'.off l hl).trans (o.off l hl), fun l b hb => by
    obtain ⟨b1, h1, k1, w1, c1⟩ := o.blk l b hb
    obtain ⟨b2, h2, k2, w2, c2⟩ := o'.blk l b1 h1
    exact ⟨b2, h2, k2.trans k1, w2.trans w1, c2.trans c1⟩⟩
theorem x1_undef : X1 (.fl .undef) .undef = X0 := by funext i; unfold X1 X0; split <;> rfl
def PMk.as (M : PMk) (u : V) (m : Int) : List V := match M.vd with | true => [u] | false => [u, .int .i64 m]
def PMk.rv (M : PMk) (m : Int) : V := match M.vd with | true => .undef | false => .int .i64 m
def SoundM (f : CallSem) (M : PMk) : Prop := ∀ (h : Heap) (ω : Nat → W) (hd : Hd) (P : List Nat) (b : Nat) (olds : List PV) (us : List V) (u : V) (m : Int) (K : List PV → Int → Prop) (Q : V → Heap → Prop),
  (∀ l l' a q, ω l = .own a q → ω l' = .own a q → l = l') → (if M.agg then u = .agg us else us = [u]) → us.length = olds.length →
  (∀ c, c < olds.length → RC h ω (.inn hd (P ++ [b + c])) (pget olds c) (get us c)) → M.f olds m K →
  (∀ news m' h', K news m' → news.length = olds.length → Only (fun l => ∃ c es r, c < olds.length ∧ pget olds c = .sl .own es ∧ ω l = .own hd (P ++ (b + c) :: r)) h h' →
    (∀ c, c < olds.length → RC h' ω (.inn hd (P ++ [b + c])) (pget news c) (get us c)) → Q (M.rv m') h') → f (M.as u m) h Q
open Classical in
noncomputable def mix (S : Nat → Prop) (h h' : Heap) : Heap := h.mapIdx fun l b => if S l then (h'[l]?).getD b else b
theorem mix_len (S : Nat → Prop) (h h' : Heap) : (mix S h h').length = h.length := by simp [mix]
theorem mix_in {S : Nat → Prop} {h h' : Heap} (hl : h'.length = h.length) {l : Nat} (hs : S l) : (mix S h h')[l]? = h'[l]? := by
  unfold mix
  rw [List.getElem?_mapIdx]
  rcases Nat.lt_or_ge l h.length with hh | hh
  · rw [List.getElem?_eq_getElem hh, List.getElem?_eq_getElem (by omega)]
    simp [hs]
  · rw [List.getElem?_eq_none hh, List.getElem?_eq_none (by omega)]; rfl
theorem mix_out {S : Nat → Prop} {h h' : Heap} {l : Nat} (hs : ¬ S l) : (mix S h h')[l]? = h[l]? := by
  unfold mix
  rw [List.getElem?_mapIdx]
  rcases Nat.lt_or_ge l h.length with hh | hh
  · rw [List.getElem?_eq_getElem hh]
    simp [hs]
  · rw [List.getElem?_eq_none hh]; rfl
theorem RC.own_at {H : Heap} {ω : Nat → W} {hd : Hd} {p : List Nat} {es : List (List PV)} {u : V} (r : RC H ω (.inn hd p) (.sl .own es) u) : RC H ω (.at hd p) (.sl .own es) u := by
  cases r with
  | nil => exact .nil _ _
  | sl _ _ _ l o n b h1 hk hc hne hn hw hle hr => exact .sl _ _ _ _ _ _ b h1 hk hc hne hn hw hle hr
section
variable {h0 : Heap} {ω0 ω : Nat → W} {ρ ρ' : Nat → Nat} {st st' st1 : PS} {us us' : St} {X X' : Hands}
theorem Tr.only {S : Nat → Prop} {h h' : Heap} (o : Only S h h') (hS : ∀ l, S l → ∃ a q, ω l = .own a q) : Tr h ω h' ω Ren.id S :=
  ⟨fun l e => ⟨e, o.off l fun hs => by obtain ⟨a, q, e'⟩ := hS l hs; rw [e] at e'; cases e'⟩, fun l hd p e hn => ⟨by rw [e]; rfl, o.off l hn⟩, fun l i e => e⟩
theorem RS.mark1 (R : RS h0 ω0 ω ρ st us X0) {hd : Hd} {c : Nat} {es es' : List (List PV)} (hg : getK st hd [c] = .sl .own es) {H : Heap} (hO : Only (fun l => ∃ r, ω l = .own hd (c :: r)) us.hp H)
    (hr : RC H ω (.at hd [c]) (.sl .own es') (fam ρ st us X0 hd [c]).2) : RS h0 ω0 ω ρ (setK st (.sl .own es') hd [c]) { us with hp := H } X0 := by
  obtain ⟨a1, a2, a3, a4, a5, a6, a7, a8, a9, a10, a11, a12⟩ := setK_spec (X' := X0) (v := .sl .own es') R hg (.inr ⟨_, _, rfl⟩) rfl
  have t := Tr.only (ω := ω) hO (fun l ⟨r, e⟩ => ⟨_, _, e⟩)
  have hV : ∀ k, k < st.hp.length → blkcs H (ρ k) = blkcs us.hp (ρ k) := by
    intro k hk
    have : ¬ ∃ r, ω (ρ k) = .own hd (c :: r) := by rintro ⟨r, e⟩; rw [(R.hp k hk).1] at e; cases e
    simp only [blkcs, hO.off _ this]
  have hfam : ∀ hd' q, fam ρ (setK st (.sl .own es') hd [c]) { us with hp := H } X0 hd' q = fam ρ (setK st (.sl .own es') hd [c]) us X0 hd' q ∨ (fam ρ (setK st (.sl .own es') hd [c]) { us with hp := H } X0 hd' q).1 = .fl .undef := by
    intro hd' q
    cases hd' with
    | h i =>
      rcases Nat.lt_or_ge i st.hp.length with hi | hi
      · left; simp only [fam, hV i hi]
      · right
        have hz : pgetB (setK st (.sl .own es') hd [c]).hp i = [] := by rw [pgetB_eq, List.getElem?_eq_none (by rw [a8]; exact hi)]; rfl
        simp only [fam, hz]; unfold cellAt; split <;> rfl
    | _ => left; rfl
  -- each cell, and that nothing of the hands is borrowed
  have key : ∀ hd' q, nobx (fam ρ (setK st (.sl .own es') hd [c]) { us with hp := H } X0 hd' q).1 ∧ RC H ω (.at hd' q) (fam ρ (setK st (.sl .own es') hd [c]) { us with hp := H } X0 hd' q).1 (fam ρ (setK st (.sl .own es') hd [c]) { us with hp := H } X0 hd' q).2 := by
    intro hd' q
    rcases hfam hd' q with hf | hf
    · rw [hf]
      by_cases hxx : ∃ i, hd' = .x i
      · obtain ⟨i, rfl⟩ := hxx; exact undef_rc (fam_x0 i q)
      · rcases a1 hd' q (fun i h => hxx ⟨i, h⟩) with h | ⟨rfl, rfl, h3⟩ | ⟨e1, e2, e3⟩
        · exact undef_rc h
        · rw [h3]
          exact ⟨fun i pb tp => by simp [PV.q], hr⟩
        · rw [e1]
          refine ⟨fun i pb tp e => R.nx hd' q i pb tp e, (R.core.rc hd' q).tr t (fun hown => ⟨fun l r e => ?_, fun r => rfl⟩) (fun hb pb tp e' => ⟨fun l q' e => ?_, fun _ _ => rfl, Ren.still.soft fun _ => rfl⟩)⟩
          · rintro ⟨r', e4⟩
            rw [e] at e4
            simp only [W.own.injEq] at e4
            obtain ⟨rfl, e5⟩ := e4
            rcases a12 q with h | ⟨c', rfl⟩
            · rw [h] at hown; cases hown
            · simp only [List.cons_append, List.nil_append, List.cons.injEq] at e5
              exact e2 ⟨rfl, by rw [e5.1]⟩
          · rintro ⟨r', e4⟩
            rw [e] at e4
            cases e4
            exact e3 _ pb tp e' rfl
    · exact undef_rc hf
  refine ⟨⟨fun hd' p => (key hd' p).2, R.core.inj, R.core.injp, fun l e => ?_, fun l e => by rw [hO.len]; exact R.core.lt l e⟩, a2, fun i => shp_undef _, by rw [a3]; exact R.lsl, by rw [a4]; exact R.lbx, fun i => by rw [a5]; exact R.lb i, a6, a7, fun i hi => ?_, fun l i e => by rw [a8]; exact R.bdp l i e, fun l i p e => by rw [a8]; exact R.bdh l i p e, ⟨by rw [hO.len]; exact R.fr.len, fun l hl e => ?_, R.fr.new, R.fr.ptr⟩, fun hd' p i pb tp => (key hd' p).1 i pb tp⟩
  · obtain ⟨b, h1, h2⟩ := R.core.kind l e
    obtain ⟨b', h3, h4, _⟩ := hO.blk l b h1
    exact ⟨b', h3, by rw [h4, h2]⟩
  · rw [a8] at hi
    simp only [hV i hi, a9]
    exact R.hp i hi
  · obtain ⟨x, y⟩ := R.fr.old l hl e
    refine ⟨?_, y⟩
    rw [← x]
    refine hO.off l ?_
    rintro ⟨r, e'⟩
    rw [y] at e'
    rcases e with e | e <;> rw [e] at e' <;> cases e'
theorem RS.markL {hd : Hd} (hsb : hd.sb = true) {Z : Prop} {K : PS → Prop} : ∀ (news olds : List PV) (c : Nat) (st : PS) (us : St) (H' : Heap) (A : Nat → V), RS h0 ω0 ω ρ st us X0 → pmkN olds news →
    Only (fun l => ∃ i es r, i < olds.length ∧ pget olds i = .sl .own es ∧ ω l = .own hd ((c + i) :: r)) us.hp H' →
    (∀ i, i < olds.length → RC H' ω (.inn hd [c + i]) (pget news i) (A (c + i))) → (∀ i es, i < olds.length → pget olds i = .sl .own es → A (c + i) = (fam ρ st us X0 hd [c + i]).2) →
    pmkS hd c news K st → (∀ st', RS h0 ω0 ω ρ st' { us with hp := H' } X0 → K st' → Z) → Z
  | [], [], c, st, us, H', A, R, _, hO, _, _, hS, hK => by
    have : H' = us.hp := List.ext_getElem? fun l => hO.off l (by rintro ⟨i, es, r, hi, _⟩; simp at hi)
    subst this
    exact hK st R hS
  | [], _ :: _, c, st, us, H', A, R, hN, hO, hr, hA, hS, hK => by unfold pmkN at hN; split at hN <;> simp_all
  | _ :: _, [], c, st, us, H', A, R, hN, hO, hr, hA, hS, hK => hN.elim
  | n :: ns, o :: os, c, st, us, H', A, R, hN, hO, hr, hA, hS, hK => by
    by_cases ho : ∃ es, o = .sl .own es
    · obtain ⟨es0, rfl⟩ := ho
      obtain ⟨⟨es, rfl⟩, hN⟩ := hN
      obtain ⟨⟨e0, hg⟩, hS⟩ := hS
      have hlen := mix_len (fun l => ∃ r, ω l = .own hd (c :: r)) us.hp H'
      have hO1 : Only (fun l => ∃ r, ω l = .own hd (c :: r)) us.hp (mix (fun l => ∃ r, ω l = .own hd (c :: r)) us.hp H') := by
        refine ⟨hlen, fun l hl => mix_out hl, fun l b hb => ?_⟩
        by_cases hs : ∃ r, ω l = .own hd (c :: r)
        · rw [mix_in (h := us.hp) hO.len hs]; exact hO.blk l b hb
        · rw [mix_out hs]; exact ⟨b, hb, rfl, rfl, rfl⟩
      have hO2 : Only (fun l => ∃ i es r, i < os.length ∧ pget os i = .sl .own es ∧ ω l = .own hd ((c + 1 + i) :: r)) (mix (fun l => ∃ r, ω l = .own hd (c :: r)) us.hp H') H' := by
        refine ⟨by rw [hlen]; exact hO.len, fun l hl => ?_, fun l b hb => ?_⟩
        · by_cases hs : ∃ r, ω l = .own hd (c :: r)
          · rw [mix_in (h := us.hp) hO.len hs]
          · rw [mix_out hs]
            refine hO.off l ?_
            rintro ⟨i, es1, r, hi, e1, e2⟩
            cases i with
            | zero => exact hs ⟨r, e2⟩
            | succ i => exact hl ⟨i, es1, r, by simpa using hi, e1, by rw [e2, show c + (i + 1) = c + 1 + i by omega]⟩
        · by_cases hs : ∃ r, ω l = .own hd (c :: r)
          · rw [mix_in (h := us.hp) hO.len hs] at hb; exact ⟨b, hb, rfl, rfl, rfl⟩
          · rw [mix_out hs] at hb; exact hO.blk l b hb
      have hz : A (c + 0) = (fam ρ st us X0 hd [c + 0]).2 := hA 0 es0 (by simp) rfl
      have hrc : RC H' ω (.inn hd [c]) (.sl .own es) (fam ρ st us X0 hd [c]).2 := by
        have := hr 0 (by simp)
        rw [hz] at this
        exact this
      have tr : Tr0 H' ω (mix (fun l => ∃ r, ω l = .own hd (c :: r)) us.hp H') ω Ren.id (fun l => ¬ ∃ r, ω l = .own hd (c :: r)) := by
        refine ⟨fun l e => ⟨e, ?_⟩, fun l a p e hn => ⟨by rw [e]; rfl, ?_⟩⟩
        · rw [mix_out (fun ⟨r, e'⟩ => by rw [e] at e'; cases e')]
          exact (hO.off l (fun ⟨i, es1, r, _, _, e'⟩ => by rw [e] at e'; cases e')).symm
        · exact mix_in (h := us.hp) hO.len (Classical.not_not.1 hn)
      have hrc1 := (hrc.inn0 (hd' := hd) (p' := [c]) tr (fun l r e hn => hn ⟨r, e⟩) (fun r => rfl)).own_at
      have R1 := R.mark1 hg hO1 hrc1
      refine RS.markL hsb ns os (c + 1) _ { us with hp := mix (fun l => ∃ r, ω l = .own hd (c :: r)) us.hp H' } H' A R1 hN hO2 (fun i hi => ?_) (fun i es1 hi e1 => ?_) hS hK
      · have := hr (i + 1) (by simpa using hi)
        rw [show c + (i + 1) = c + 1 + i by omega] at this
        exact this
      · have := hA (i + 1) es1 (by simpa using hi) e1
        rw [show c + (i + 1) = c + 1 + i by omega] at this
        rw [this]
        cases hd <;> first | rfl | (cases hsb)
    · have hN' : (∀ q es, n ≠ .sl q es) ∧ pmkN os ns := by
        unfold pmkN at hN
        split at hN
        · simp_all
        · rename_i h1 _; cases h1; exact absurd ⟨_, rfl⟩ ho
        · rename_i h1 h2; cases h1; cases h2; exact hN
        · simp_all
      have hS' : pmkS hd (c + 1) ns K st := by
        unfold pmkS at hS
        split at hS
        · simp_all
        · rename_i h1; cases h1; exact absurd rfl (hN'.1 _ _)
        · rename_i h1; cases h1; exact hS
      refine RS.markL hsb ns os (c + 1) st us H' A R hN'.2 (hO.mono ?_) (fun i hi => ?_) (fun i es1 hi e1 => ?_) hS' hK
      · rintro l ⟨i, es1, r, hi, e1, e2⟩
        cases i with
        | zero => exact absurd ⟨es1, e1⟩ ho
        | succ i => exact ⟨i, es1, r, by simpa using hi, e1, by rw [e2, show c + (i + 1) = c + 1 + i by omega]⟩
      · have := hr (i + 1) (by simpa using hi)
        rw [show c + (i + 1) = c + 1 + i by omega] at this
        exact this
      · have := hA (i + 1) es1 (by simpa using hi) e1
        rw [show c + (i + 1) = c + 1 + i by omega] at this
        exact this
theorem pmkC_get {st : PS} {hd : Hd} : ∀ {olds as : List PV} {b : Nat}, pmkC st hd b olds as → olds.length = as.length ∧ ∀ i, i < olds.length →
    (∃ es es', pget olds i = .sl .own es ∧ getK st hd [b + i] = .sl .own es ∧ pget as i = .sl (.bor hd [b + i] true) es' ∧ es'.length = es.length) ∨ (pget as i = pget olds i ∧ (pget olds i).flatc = true)
  | [], [], b, _ => ⟨rfl, fun i hi => by simp at hi⟩
  | [], _ :: _, b, h => h.elim
  | _ :: _, [], b, h => by unfold pmkC at h; split at h <;> simp_all
  | o :: os, a :: as, b, h => by
    have step : ∀ {i : Nat} {P : Nat → Prop}, P (b + 1 + i) → P (b + (i + 1)) := fun {i P} h => by rw [show b + (i + 1) = b + 1 + i by omega]; exact h
    cases o with
    | sl q es =>
      obtain ⟨rfl, h3, ⟨es', rfl, h4⟩, h5⟩ := h
      obtain ⟨h6, h7⟩ := pmkC_get h5
      refine ⟨by simp [h6], fun i hi => ?_⟩
      cases i with
      | zero => exact .inl ⟨es, es', rfl, h3, rfl, h4⟩
      | succ i => exact step (P := fun n => (∃ es1 es', pget os i = .sl .own es1 ∧ getK st hd [n] = .sl .own es1 ∧ pget as i = .sl (.bor hd [n] true) es' ∧ es'.length = es1.length) ∨ (pget as i = pget os i ∧ (pget os i).flatc = true)) (h7 i (by simpa using hi))
    | _ =>
      all_goals
        obtain ⟨h3, h4, h5⟩ := h
        obtain ⟨h6, h7⟩ := pmkC_get h5
        refine ⟨by simp [h6], fun i hi => ?_⟩
        cases i with
        | zero => exact .inr ⟨h3, h4⟩
        | succ i => exact step (P := fun n => (∃ es1 es', pget os i = .sl .own es1 ∧ getK st hd [n] = .sl .own es1 ∧ pget as i = .sl (.bor hd [n] true) es' ∧ es'.length = es1.length) ∨ (pget as i = pget os i ∧ (pget os i).flatc = true)) (h7 i (by simpa using hi))
theorem getK_fam (R : RS h0 ω0 ω ρ st us X0) {hd : Hd} {c : Nat} {es : List (List PV)} (hg : getK st hd [c] = .sl .own es) : RC us.hp ω (.at hd [c]) (.sl .own es) (fam ρ st us X0 hd [c]).2 := by
  obtain ⟨_, _, _, _, _, _, _, _, _, _, a11, _⟩ := setK_spec (X' := X0) (v := .fl .undef) R hg (.inl rfl) rfl
  have := R.core.rc hd [c]
  rw [a11] at this
  exact this
theorem pmark_sound {f : CallSem} {M : PMk} (hs : SoundM f M) (R : RS h0 ω0 ω ρ st us X0) {x y : Opnd} {d : Option Nat} {k : PS → Prop} {K : St → Prop} (hk : ∀ st us ω ρ, RS h0 ω0 ω ρ st us X0 → k st → K us) (e : pmark M x y d k st) :
    (((match M.vd with | true => [x] | false => [x, y]) : List Opnd).map (·.ev us.sl)).all V.ok1 = true ∧ f (((match M.vd with | true => [x] | false => [x, y]) : List Opnd).map (·.ev us.sl)) us.hp fun r h => K (St.put { us with hp := h } d r) := by
  obtain ⟨m, hd, b, olds, ey, eag, hsb, hok, hC, hM⟩ := e
  obtain ⟨ey1, _⟩ := R.ev_fl ey (by simp)
  have hvd : M.vd = true ∨ M.vd = false := by cases M.vd <;> simp
  refine ⟨args_ok1 R (by rcases hvd with h | h <;> rw [h] <;> simp only [List.map_cons, List.map_nil, argsOk, Bool.and_eq_true] <;> first | exact ⟨hok, trivial⟩ | exact ⟨hok, by rw [ey]; rfl, trivial⟩), ?_⟩
  obtain ⟨hl, hC⟩ := pmkC_get hC
  obtain ⟨hdx, _, hshx, hrx⟩ := R.ev x
  -- the argument's cells
  have hcs : (if M.agg then x.ev us.sl = .agg (x.ev us.sl).cells else (x.ev us.sl).cells = [x.ev us.sl]) ∧ (x.ev us.sl).cells.length = (x.pev st.sl).cells.length ∧
      ∀ i, i < olds.length → ∃ q, RC us.hp ω (.at hdx q) (pget (x.pev st.sl).cells i) (get (x.ev us.sl).cells i) := by
    generalize x.pev st.sl = v at eag hok hl hshx hrx
    generalize x.ev us.sl = u at hshx hrx
    cases v with
    | agg cs =>
      obtain ⟨ws, rfl, h2⟩ := hshx
      refine ⟨by rw [← eag]; simp [PV.isAgg, V.cells], h2, fun i hi => ⟨[i], ?_⟩⟩
      exact hrx [i]
    | tup vs => cases hok
    | _ =>
      all_goals
        have hu : (∀ us, u ≠ .agg us) ∧ ∀ us, u ≠ .tup us := by
          first
          | exact hshx
          | (rename_i z; cases z <;> first | exact hshx | (simp [PV.argok, PV.argc, V.flat] at hok))
        have hc : u.cells = [u] := by cases u <;> first | rfl | exact absurd rfl (hu.1 _)
        refine ⟨by rw [← eag, hc]; simp [PV.isAgg], by rw [hc]; rfl, fun i hi => ⟨[0], ?_⟩⟩
        have hi0 : i = 0 := by rw [hl] at hi; simp [PV.cells] at hi; exact hi
        subst hi0
        have := hrx [0]
        rw [vfcell_scalar hu.1 hu.2] at this
        rw [hc]
        exact this
  obtain ⟨hag, hcl, hcr⟩ := hcs
  -- .. are those of the holder
  have cells : ∀ i, i < olds.length → RC us.hp ω (.inn hd ([] ++ [b + i])) (pget olds i) (get (x.ev us.sl).cells i) ∧ ∀ es, pget olds i = .sl .own es → get (x.ev us.sl).cells i = (fam ρ st us X0 hd [b + i]).2 := by
    intro i hi
    obtain ⟨q, rc⟩ := hcr i hi
    rcases hC i hi with ⟨es, es', h1, h2, h3, h4⟩ | ⟨h1, h2⟩
    · have rk := getK_fam R h2
      rw [h3] at rc
      rw [h1]
      have same : get (x.ev us.sl).cells i = (fam ρ st us X0 hd [b + i]).2 := by
        generalize get (x.ev us.sl).cells i = u1 at rc
        generalize (fam ρ st us X0 hd [b + i]).2 = u2 at rk
        cases rc with
        | nil =>
          have : es = [] := List.eq_nil_of_length_eq_zero (by rw [← h4]; rfl)
          subst this
          cases rk with
          | nil => rfl
          | sl _ _ _ l o n b' hb hk hc hne => exact absurd rfl (hne rfl (.inl rfl))
        | sl _ _ _ l o n b1 hb hk hc hne hn hw hle hr =>
          have hne' : es' ≠ [] := hne rfl (.inr ⟨_, _, rfl⟩)
          obtain ⟨hl1, rfl⟩ := hc.2 rfl
          cases rk with
          | nil => exact absurd (List.eq_nil_of_length_eq_zero h4) hne'
          | sl _ _ _ l' o' n' b2 hb2 hk2 hc2 hne2 hn2 hw2 hle2 hr2 =>
            obtain ⟨hl2, rfl, _⟩ := hc2
            have := R.core.inj l l' _ _ hl1 hl2
            subst this
            rw [hn, hn2, h4]
      refine ⟨?_, fun _ _ => same⟩
      rw [same]
      exact rk.lay_inn rfl
    · rw [h1] at rc
      generalize hz : pget olds i = o at rc h2
      refine ⟨?_, fun es e => by rw [e] at h2; cases h2⟩
      cases o with
      | fl z =>
        cases rc with
        | undef => simp [PV.flatc, V.flat] at h2
        | v _ _ hx => exact .v _ _ hx
      | _ => cases h2
  have ho := hs us.hp ω hd [] b olds (x.ev us.sl).cells (x.ev us.sl) m _ (fun r h => K (St.put { us with hp := h } d r)) R.core.inj hag (by rw [hcl, hl]) (fun i hi => (cells i hi).1) hM fun news m' h' hK hnl hO hr => ?_
  · unfold PMk.as at ho
    rcases hvd with h | h <;> rw [h] at ho ⊢
    · exact ho
    · simp only [List.map_cons, List.map_nil, ey1]
      exact ho
  · obtain ⟨hN, hS⟩ := hK
    refine RS.markL hsb news olds b st us h' (fun j => get (x.ev us.sl).cells (j - b)) R hN hO (fun i hi => ?_) (fun i es hi e => ?_) hS fun st' R' hk' => ?_
    · rw [show b + i - b = i by omega]
      exact hr i hi
    · rw [show b + i - b = i by omega]
      exact (cells i hi).2 es e
    · unfold PMk.rv
      rcases hvd with h | h <;> rw [h] at hk' ⊢
      · obtain ⟨ω2, R2⟩ := (show RS _ _ _ _ _ _ (X1 (.fl .undef) .undef) by rw [x1_undef]; exact R').put d
        exact hk _ _ _ _ R2 hk'
      · obtain ⟨ω2, R2⟩ := (R'.flat (x := .int .i64 m') rfl).put d
        exact hk _ _ _ _ R2 hk'
end
end Go.Ag
