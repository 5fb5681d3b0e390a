/-
  EACH OPERATION THAT IS NO CALL: equality of structs, struct values.
-/
import Derived.Test.YtimnnpimflgonaaAgOps3
namespace Go.Ag

/-! ### Equality of structs of numbers, bools and strings -/

def eqFs (P : Program) (f : TypeId → Option (Option Nat)) : List Field → Nat → Option Nat
  | [], off => some off
  | g :: r, off =>
    match f g.type with
    | some m => if g.name != "_" && g.offset == off && okVar P g.type m then eqFs P f r (off + m.getD 1) else none
    | none => none
def eqT (P : Program) : Nat → TypeId → Option (Option Nat)
  | 0, _ => none
  | d + 1, t =>
    match P.underlying t with
    | some (.int _) => some none
    | some (.struct fs) => if P.stoodInHeld t then none else (eqFs P (eqT P d) fs.toList 0).map some
    | _ => none

theorem eqCells_app : ∀ (A A' B B' : List V) (b : Bool), A.length = A'.length → eqCells (A ++ B) (A' ++ B') = some b →
    (eqCells A A' = some false ∧ b = false) ∨ (eqCells A A' = some true ∧ eqCells B B' = some b)
  | [], [], B, B', b, _, h => .inr ⟨rfl, h⟩
  | [], _ :: _, _, _, _, h, _ => by simp at h
  | _ :: _, [], _, _, _, h, _ => by simp at h
  | x :: A, y :: A', B, B', b, hl, h => by
    simp only [List.cons_append, eqCells] at h ⊢
    cases hc : eqCell x y with
    | none => simp [hc] at h
    | some t =>
      cases t with
      | false => simp [hc] at h; exact .inl ⟨rfl, h⟩
      | true => simp only [hc] at h ⊢; exact eqCells_app A A' B B' b (by simpa using hl) h

theorem seg_split {α : Type} (l : List α) (o k n : Nat) (h : o + k ≤ n) : (l.take n).drop o = ((l.drop o).take k) ++ ((l.take n).drop (o + k)) := by
  have e := (List.take_append_drop k ((l.take n).drop o)).symm
  rw [List.drop_drop] at e
  have e2 : ((l.take n).drop o).take k = (l.drop o).take k := by
    rw [List.drop_take, List.take_take]
    congr 1; omega
  rw [e2] at e
  exact e

/-- One value against another, by its type. -/
theorem run_eqT {P : Program} {w : World} : ∀ (d : Nat) (t : TypeId) (m : Option Nat), eqT P d t = some m → ∀ (ι : Inj) (σ : Heap) (β : Nat → Nat) (cs ds : List V) (xs ys : List Value) (b : Bool),
    cs.length = m.getD 1 → ds.length = m.getD 1 → xs.length = m.getD 1 → ys.length = m.getD 1 →
    (∀ (i : Nat) v x, cs[i]? = some v → xs[i]? = some x → Rel ι σ β v x) → (∀ (i : Nat) v x, ds[i]? = some v → ys[i]? = some x → Rel ι σ β v x) → eqCells cs ds = some b → ∀ d', d ≤ d' →
    (m.isSome = true → (Op.equalIn d' t (.agg xs.toArray) (.agg ys.toArray)).run P w = .ok b w) ∧ (m = none → ∀ x y, xs = [x] → ys = [y] → (Op.equalIn d' t x y).run P w = .ok b w)
  | 0, _, _, h => by simp [eqT] at h
  | d + 1, t, m, h => by
    intro ι σ β cs ds xs ys b lc ld lx ly hx hy e d' hd
    obtain ⟨d'', rfl⟩ : ∃ d'', d' = d'' + 1 := ⟨d' - 1, by omega⟩
    unfold eqT at h
    split at h
    · rename_i _ k ht
      cases h
      refine ⟨fun h => by simp at h, fun _ x y ex ey => ?_⟩
      subst ex; subst ey
      match cs, ds, lc, ld with
      | [c], [c'], _, _ =>
        have rx := hx 0 c x rfl rfl
        have ry := hy 0 c' y rfl rfl
        have e0 : eqCell c c' = some b := by
          unfold eqCells at e
          cases hc : eqCell c c' with
          | none => simp [hc] at e
          | some t => cases t <;> simp [hc, eqCells] at e <;> simp [e]
        cases c <;> cases c' <;> simp [eqCell] at e0

        rw [rel_int rx, rel_int ry]
        obtain ⟨rfl, e0⟩ := e0
        rw [run_equalIn_int w d'' t _ k _ _ ht, e0]
    · rename_i fs ht
      split at h
      · cases h
      · rename_i hst
        simp only [Option.map_eq_some_iff] at h
        obtain ⟨n, hn, rfl⟩ := h
        refine ⟨fun _ => ?_, fun h => by cases h⟩
        have hf : P.fieldsOf t = fs := by simp [Program.fieldsOf, ht]
        rw [run_equalIn_struct w d'' t _ _ (by rw [hf]; exact ht) (by simpa using hst), hf]
        simp only [Option.getD_some] at lc ld lx ly
        have key : ∀ (r : List Field) (off n : Nat), eqFs P (eqT P d) r off = some n → off ≤ n → n ≤ cs.length → n ≤ xs.length → cs.length = ds.length → xs.length = ys.length → ∀ b, eqCells ((cs.take n).drop off) ((ds.take n).drop off) = some b →
            (Op.eqFields d'' xs.toArray ys.toArray r).run P w = .ok b w := by
          intro r
          induction r with
          | nil =>
            intro off n hr _ h1 h2 h3 h4 b hb
            simp [eqFs] at hr
            subst hr
            have z1 : (cs.take off).drop off = [] := by simp
            have z2 : (ds.take off).drop off = [] := by simp
            rw [z1, z2] at hb
            simp [eqCells] at hb
            subst hb
            simp [Op.eqFields]
          | cons g r ih =>
            intro off n hr hon h1 h2 h3 h4 b hb
            simp only [eqFs] at hr
            split at hr
            · rename_i m hm
              split at hr
              · rename_i hc
                simp only [Bool.and_eq_true, bne_iff_ne, ne_eq, beq_iff_eq] at hc
                obtain ⟨⟨c1, c2⟩, c3⟩ := hc
                obtain ⟨dd, inf, q1, q2, q3, q4⟩ := okVar_spec c3
                have mono : ∀ (r : List Field) (off n : Nat), eqFs P (eqT P d) r off = some n → off ≤ n := by
                  intro r
                  induction r with
                  | nil => intro off n h; simp [eqFs] at h; omega
                  | cons g r ih =>
                    intro off n h
                    simp only [eqFs] at h
                    split at h
                    · split at h
                      · have := ih _ _ h; omega
                      · cases h
                    · cases h
                have hle := mono r _ n hr
                have sp1 := seg_split cs off (m.getD 1) n hle
                have sp2 := seg_split ds off (m.getD 1) n hle
                rw [sp1, sp2] at hb
                have l1 : ((cs.drop off).take (m.getD 1)).length = m.getD 1 := by simp; omega
                have l2 : ((ds.drop off).take (m.getD 1)).length = m.getD 1 := by simp; omega
                have l3 : ((xs.drop off).take (m.getD 1)).length = m.getD 1 := by simp; omega
                have l4 : ((ys.drop off).take (m.getD 1)).length = m.getD 1 := by simp; omega
                have step : ∀ b', eqCells ((cs.drop off).take (m.getD 1)) ((ds.drop off).take (m.getD 1)) = some b' →
                    ∃ xv yv, (part g.type xs.toArray g.offset).run P w = .ok xv w ∧ (part g.type ys.toArray g.offset).run P w = .ok yv w ∧ (Op.equalIn d'' g.type xv yv).run P w = .ok b' w := by
                  intro b' hb'
                  have ihT := run_eqT (P := P) (w := w) d g.type m hm ι σ β _ _ ((xs.drop off).take (m.getD 1)) ((ys.drop off).take (m.getD 1)) b' l1 l2 l3 l4
                    (fun i v x hv hxx => hx _ v x (take_drop_get hv).2 (take_drop_get hxx).2) (fun i v x hv hxx => hy _ v x (take_drop_get hv).2 (take_drop_get hxx).2) hb' d'' (by omega)
                  cases m with
                  | some k =>
                    refine ⟨.agg ((xs.drop off).take k).toArray, .agg ((ys.drop off).take k).toArray, ?_, ?_, ihT.1 rfl⟩
                    · simp only [Option.isSome_some, Option.getD_some] at q3 q4
                      simp [part, r_isAgg q1, q3, r_size q2, q4, c2, List.extract_eq_take_drop]
                    · simp only [Option.isSome_some, Option.getD_some] at q3 q4
                      simp [part, r_isAgg q1, q3, r_size q2, q4, c2, List.extract_eq_take_drop]
                  | none =>
                    simp only [Option.getD_none] at l3 l4 hle
                    have hx1 : off < xs.length := by omega
                    have hy1 : off < ys.length := by omega
                    have ex : (xs.drop off).take 1 = [xs[off]] := by rw [List.drop_eq_getElem_cons hx1]; rfl
                    have ey : (ys.drop off).take 1 = [ys[off]] := by rw [List.drop_eq_getElem_cons hy1]; rfl
                    refine ⟨xs[off], ys[off], ?_, ?_, ihT.2 rfl _ _ ex ey⟩
                    · simp [part, r_isAgg q1, q3, c2, hx1]
                    · simp [part, r_isAgg q1, q3, c2, hy1]
                rcases eqCells_app _ _ _ _ b (by rw [l1, l2]) hb with ⟨e1, rfl⟩ | ⟨e1, e2⟩
                · obtain ⟨xv, yv, p1, p2, p3⟩ := step _ e1
                  simp [Op.eqFields, c1, p1, p2, p3]
                · obtain ⟨xv, yv, p1, p2, p3⟩ := step _ e1
                  have := ih _ n hr hle h1 h2 h3 h4 b e2
                  simp [Op.eqFields, c1, p1, p2, p3, this]
              · cases hr
            · cases hr
        refine key fs.toList 0 n hn (Nat.zero_le _) (by omega) (by omega) (by omega) (by omega) b ?_
        have t1 : cs.take n = cs := List.take_of_length_le (by omega)
        have t2 : ds.take n = ds := List.take_of_length_le (by omega)
        simpa [t1, t2] using e
    · cases h

def eqAOK (P : Program) (t : TypeId) : Bool := P.eqGuardType P.depth t == false && (match eqT P 50 t with | some (some _) => true | _ => false)

section
variable {P : Program} {o : Oper} {a : Act} {ι : Inj} {β : Nat → Nat} {st : St} {w0 w : World} {v : V} {bx : List (List V)} {hp : Heap}
  (H : HRel ι st.hp w) (B : BRel ι st.hp β st.bx w0 w) (S : SRel ι st.hp β st.sl a.tmps) {ι0 : Inj} {σ0 : Heap} (T : Step ι0 σ0 w0 ι st.hp w)
include H B S T

theorem op_eqA {op : BinOp} {t u : TypeId} {n : Nat} {neg : Bool} {x y : Operand} {x' y' : Opnd} (ho : o.op = .binOp op t x y u) (hop : op = if neg then .neq else .eql) (hg : P.eqGuardType P.depth t = false) (hT : eqT P 50 t = some (some n))
    (hx : okX x x' = true) (hy : okX y y' = true) (e : stepV (.eqA n neg x' y') st = some (v, bx, hp)) : Out P o a ι0 σ0 w0 w st.sl v bx hp := by
  have rx := okX_rel hx S
  have ry := okX_rel hy S
  simp only [stepV] at e
  split at e
  · rename_i cs ds hxe hye
    rw [hxe] at rx; rw [hye] at ry
    obtain ⟨ws, ex, l1, _, q1⟩ := rel_agg rx
    obtain ⟨us, ey, l2, _, q2⟩ := rel_agg ry
    split at e
    · rename_i hlen
      simp only [Option.bind_eq_some_iff] at e
      obtain ⟨b, e1, e2⟩ := e
      cases e2
      have hr := (run_eqT (P := P) (w := w) 50 t (some n) hT ι st.hp β cs ds ws us b hlen.1 hlen.2 (by rw [← l1]; exact hlen.1) (by rw [← l2]; exact hlen.2) q1 q2 e1 10000 (by omega)).1 rfl
      have hgd := run_eqGuard_agg (P := P) w op t x y ws.toArray us.toArray hg
      refine Out.pure H B S T (x := .bool (if neg = true then !b else b)) ?_ (.bool _) rfl
      simp only [execOp, ho, ex, ey, Sem.run_bind, hgd, Result.andThen_ok]
      cases neg
      · simp only [Bool.false_eq_true, if_false] at hop
        subst hop
        simp [run_eql_struct, hr]
      · simp only [if_true] at hop
        subst hop
        simp [run_neq_struct, hr]
    · cases e
  · cases e
end
end Go.Ag
