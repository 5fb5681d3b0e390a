/-
  Part 5 of what the law FnExactHeldAt needs: an abstract semantics proved sound, the program's functions in its form, plain Lean about them. No conditions.
-/
import Derived.WalkKit
import Derived.ProofKit
import Derived.OpenShut
import Derived.Carry
import Derived.ChangeSame
import Derived.KernelRfl
import Derived.Test.YtmjjamfkgingcaaLibD
namespace Go.Ag
set_option linter.unusedSimpArgs false
set_option linter.unusedVariables false
mutual
def DV.flt : DV → Bool
  | .bool _ | .int _ _ | .str _ | .ifc _ => true
  | .agg cs => DV.fltL cs
  | .tup vs => DV.fltL vs
  | _ => false
def DV.fltL : List DV → Bool
  | [] => true
  | v :: r => v.flt && DV.fltL r
end
mutual
theorem flt_enc : ∀ (v : DV), v.flt = true → v.enc.flt = true
  | .bool _, _ | .int _ _, _ | .str _, _ | .ifc _, _ => rfl
  | .agg cs, h => fltL_enc cs h
  | .tup cs, h => fltL_enc cs h
theorem fltL_enc : ∀ (l : List DV), DV.fltL l = true → PV.fltL (DV.encL l) = true
  | [], _ => rfl
  | v :: r, h => by
    simp only [DV.fltL, Bool.and_eq_true] at h
    simp only [DV.encL, PV.fltL, flt_enc v h.1, fltL_enc r h.2, Bool.and_self]
end
theorem retL_okL : ∀ (l : List DV), dretL l = true → DV.okL l = true
  | [], _ => rfl
  | v :: r, h => by
    simp only [dretL, Bool.and_eq_true] at h
    have : v.ok = true := by cases v <;> first | rfl | (have := h.1; cases this)
    simp only [DV.okL, this, retL_okL r h.2, Bool.and_self]
theorem EBx.segm2 {a : List DC} {b : List PV} {o n : Nat} (h : EBx a b) (hl : o + n ≤ a.length) (hk : DV.okL (vsegm (vals a) o n) = true) : Go.Ag.segm b o n = DV.encL (vsegm (vals a) o n) ∧ o + n ≤ b.length := by
  rcases h with rfl | h
  · simp only [List.length_nil, Nat.le_zero_eq, Nat.add_eq_zero_iff] at hl
    obtain ⟨rfl, rfl⟩ := hl
    refine ⟨?_, Nat.zero_le _⟩
    cases b <;> rfl
  · exact ⟨h.segm o n hk, by rw [← h.len]; exact hl⟩
theorem dresOf_s {st st' : DS} {s : PS} {r : ARes} {v : DV} (hs : ES st s) (h : dresOf st r = some (v, st')) (hv : v.ok = true) : ∃ s', presOf s r = some (v.enc, s') ∧ ES st' s' := by
  cases r with
  | tmp t =>
    simp only [dresOf] at h
    split at h
    · rename_i hc
      simp only [Bool.and_eq_true] at hc
      simp only [Option.some.injEq] at h
      have hk : (dmvOut (.t t) st).1.ok = true := by
        have : (dmvOut (.t t) st).1 = v := by simp only [dmvOut, h]
        rw [this]; exact hv
      obtain ⟨m1, m2⟩ := mvOut_sound (.t t) hs hk
      have hne : dget st.sl t ≠ .any := by intro e; rw [e] at hc; cases hc.2
      have hp := (hs.sl.get t).of hne
      simp only [dmvOut, h, mvOut] at m1 m2
      refine ⟨(mvS (pget s.sl t) t s).2, ?_, m2⟩
      simp only [presOf]
      rw [if_pos (by rw [hp]; exact retok_enc _ hc.1), ← m1]
    · cases h
  | cell t n =>
    simp only [dresOf] at h
    have hp := hs.sl.get t
    cases hv : dget st.sl t with
    | box i o =>
      rw [hv] at h hp
      have hp := hp.of (by simp)
      simp only at h
      split at h
      · rename_i hc
        simp only [Bool.and_eq_true] at hc
        simp only [Option.map_eq_some_iff] at h
        obtain ⟨⟨g, r⟩, h1, h2⟩ := h
        simp only at h2
        subst h2
        obtain ⟨e1, e2⟩ := (hs.bx.get i).segm2 (Nat.le_of_ble_eq_true hc.1) (retL_okL _ hc.2)
        have hg : g = .tt := by
          unfold dloadB at h1
          simp only [if_true] at h1
          split at h1
          · simp only [Option.map_eq_some_iff, Prod.mk.injEq] at h1
            obtain ⟨_, _, rfl, _⟩ := h1; rfl
          · cases h1
        subst hg
        obtain ⟨s', e3, e4⟩ := dloadB_sound (p := .box i o) hs (.inr rfl) h1
        refine ⟨s', ?_, e4⟩
        simp only [presOf, hp, DV.enc]
        rw [if_pos ⟨e2, by rw [e1]; exact retL_enc _ hc.2⟩]
        exact e3
      · cases h
    | ptr i o =>
      rw [hv] at h hp
      have hp := hp.of (by simp)
      simp only at h
      split at h
      · rename_i hc
        simp only [Bool.and_eq_true] at hc
        simp only [Option.map_eq_some_iff] at h
        obtain ⟨⟨g, r⟩, h1, h2⟩ := h
        simp only at h2
        subst h2
        obtain ⟨e1, e2⟩ := (hs.hp.get i).segm2 (Nat.le_of_ble_eq_true hc.1) (retL_okL _ hc.2)
        have hg : g = .tt ∧ i < st.hp.length := by
          unfold dloadH at h1
          simp only [if_true] at h1
          split at h1
          · rename_i hb
            simp only [Bool.and_eq_true] at hb
            simp only [Option.map_eq_some_iff, Prod.mk.injEq] at h1
            obtain ⟨_, _, rfl, _⟩ := h1
            exact ⟨rfl, Nat.le_of_ble_eq_true hb.1.1⟩
          · cases h1
        obtain ⟨rfl, hi⟩ := hg
        obtain ⟨s', e3, e4⟩ := dloadH_sound (p := .ptr i o) hs (.inr rfl) h1 trivial
        refine ⟨s', ?_, e4⟩
        simp only [presOf, hp, DV.enc]
        rw [if_pos ⟨by rw [← hs.hp.len]; exact hi, e2, by rw [e1]; exact retL_enc _ hc.2⟩]
        exact e3
      · cases h
    | _ => rw [hv] at h; cases h
theorem dresAll_s : ∀ {res : List ARes} {st st' : DS} {s : PS} {vs : List DV}, ES st s → dresAll st res = some (vs, st') → DV.okL vs = true → ∃ s', presAll s res = some (DV.encL vs, s') ∧ ES st' s'
  | [], st, st', s, vs, hs, h, _ => by
    simp only [dresAll, Option.some.injEq, Prod.mk.injEq] at h
    obtain ⟨rfl, rfl⟩ := h
    exact ⟨s, rfl, hs⟩
  | r :: rs, st, st', s, vs, hs, h, hk => by
    simp only [dresAll] at h
    split at h
    · rename_i v st1 h1
      split at h
      · rename_i vs1 st2 h2
        simp only [Option.some.injEq, Prod.mk.injEq] at h
        obtain ⟨rfl, rfl⟩ := h
        simp only [DV.okL, Bool.and_eq_true] at hk
        obtain ⟨s1, e1, e2⟩ := dresOf_s hs h1 hk.1
        obtain ⟨s2, e3, e4⟩ := dresAll_s e2 h2 hk.2
        exact ⟨s2, by simp only [presAll, e1, e3, DV.encL], e4⟩
      · cases h
    · cases h
theorem dresV_s : ∀ {res : List ARes} {st : DS} {s : PS} {v : DV}, ES st s → dresV st res = some v → v.ok = true → ∃ s', presV s res = some (v.enc, s') := by
  have gen : ∀ {res : List ARes} {st : DS} {s : PS} {v : DV}, ES st s → v.ok = true → (dresAll st res).map (fun x => DV.tup x.1) = some v → ∃ s', (presAll s res).map (fun (vs, st) => (PV.tup vs, st)) = some (v.enc, s') := fun hs hv h => by
    simp only [Option.map_eq_some_iff] at h
    obtain ⟨⟨vs, st'⟩, h1, rfl⟩ := h
    obtain ⟨s', e1, _⟩ := dresAll_s hs h1 hv
    exact ⟨s', by rw [e1]; rfl⟩
  intro res st s v hs h hv
  cases res with
  | nil => exact gen (res := []) hs hv h
  | cons r rs =>
    cases rs with
    | nil =>
      simp only [dresV, Option.map_eq_some_iff] at h
      obtain ⟨⟨v', st'⟩, h1, rfl⟩ := h
      obtain ⟨s', e1, _⟩ := dresOf_s hs h1 hv
      exact ⟨s', e1⟩
    | cons r2 rs => exact gen (res := r :: r2 :: rs) hs hv h
theorem val_s {res : List ARes} : ∀ {t : DT} {g : PX} {v : DV}, t.val res = (g, some v) → v ≠ .any → g.den →
    t.ok.den ∧ ∃ e st v0, t.lf = some (e, st) ∧ (∀ i, e ≠ .exit i) ∧ dresV st res = some v0 ∧ v0.ok = true ∧ v.enc = v0.enc
  | .leaf e st, g, v, h, hv, hg => by
    have gen : (match dresV st res with | some v => if (v.ok && !v.hasPtr) = true then (PX.tt, some v) else (PX.ff, none) | none => (PX.ff, none)) = (g, some v) → dresV st res = some v ∧ v.ok = true := fun h => by
      split at h
      · split at h
        · rename_i h1 h2
          simp only [Prod.mk.injEq, Option.some.injEq] at h
          obtain ⟨_, rfl⟩ := h
          simp only [Bool.and_eq_true] at h2
          exact ⟨h1, h2.1⟩
        · simp at h
      · simp at h
    cases e with
    | exit i => simp [DT.val] at h
    | normal => obtain ⟨h1, h2⟩ := gen h; exact ⟨trivial, .normal, st, v, rfl, by simp, h1, h2, rfl⟩
    | ret => obtain ⟨h1, h2⟩ := gen h; exact ⟨trivial, .ret, st, v, rfl, by simp, h1, h2, rfl⟩
  | .node c a b, g, v, h, hv, hg => by
    simp only [DT.val] at h
    have hno : ∀ {t : DT} {g : PX}, t.val res = (g, none) → ¬ g.den := by
      intro t
      induction t with
      | leaf e st =>
        intro g h
        cases e <;> simp only [DT.val] at h <;> (repeat' split at h) <;> simp only [Prod.mk.injEq, reduceCtorEq, and_false, and_true] at h <;> subst h <;> exact id
      | node c x y ih1 ih2 =>
        intro g h hg
        simp only [DT.val] at h
        cases h1 : x.val res with
        | mk g1 v1 =>
          cases h2 : y.val res with
          | mk g2 v2 =>
            rw [h1, h2] at h
            cases v1 with
            | none =>
              simp only [Prod.mk.injEq] at h
              obtain ⟨rfl, rfl⟩ := h
              have := (PX.if_den _ _ _).mp hg
              cases c with
              | true => exact ih1 h1 (this.1 rfl)
              | false => exact ih2 h2 (this.2 rfl)
            | some v1 => cases v2 <;> simp at h
      | chk g0 t ih =>
        intro g h hg
        simp only [DT.val] at h
        cases h1 : t.val res with
        | mk g1 v1 =>
          rw [h1] at h
          simp only [Prod.mk.injEq] at h
          obtain ⟨rfl, rfl⟩ := h
          exact ih h1 ((PX.land_den _ _).mp hg).2
      | bad =>
        intro g h
        simp only [DT.val, Prod.mk.injEq, and_true] at h
        subst h; exact id
    cases h1 : a.val res with
    | mk g1 v1 =>
      cases h2 : b.val res with
      | mk g2 v2 =>
        rw [h1, h2] at h
        have fin : ∀ (v1 v2 : DV), g = PX.if' c g1 g2 → a.val res = (g1, some v1) → b.val res = (g2, some v2) → v = mrgV c v1 v2 → (DT.node c a b).ok.den ∧ ∃ e st v0, (DT.node c a b).lf = some (e, st) ∧ (∀ i, e ≠ .exit i) ∧ dresV st res = some v0 ∧ v0.ok = true ∧ v.enc = v0.enc := by
          intro v1 v2 hgg h1 h2 hvv
          subst hgg
          have hg := (PX.if_den _ _ _).mp hg
          have he := (mrgV_s c v1 v2).resolve_left (by rw [← hvv]; exact hv)
          rw [← hvv] at he
          have n1 : v1 ≠ .any := by rintro rfl; apply hv; rw [hvv]; cases v2 <;> rfl
          have n2 : v2 ≠ .any := by rintro rfl; apply hv; rw [hvv]; cases v1 <;> rfl
          show (PX.if' c a.ok b.ok).den ∧ ∃ e st v0, (DT.node c a b).lf = some (e, st) ∧ (∀ i, e ≠ .exit i) ∧ dresV st res = some v0 ∧ v0.ok = true ∧ v.enc = v0.enc
          rw [PX.if_den]
          cases c with
          | true =>
            obtain ⟨k1, e, st, v0, k2, k3, k4, k5, k6⟩ := val_s h1 n1 (hg.1 rfl)
            exact ⟨⟨fun _ => k1, fun h => by cases h⟩, e, st, v0, k2, k3, k4, k5, by rw [he]; exact k6⟩
          | false =>
            obtain ⟨k1, e, st, v0, k2, k3, k4, k5, k6⟩ := val_s h2 n2 (hg.2 rfl)
            exact ⟨⟨fun h => (by cases h), fun _ => k1⟩, e, st, v0, k2, k3, k4, k5, by rw [he]; exact k6⟩
        cases v1 with
        | none =>
          simp only [Prod.mk.injEq] at h
          obtain ⟨rfl, rfl⟩ := h
          have hg := (PX.if_den _ _ _).mp hg
          show (PX.if' c a.ok b.ok).den ∧ _
          rw [PX.if_den]
          cases c with
          | true => exact absurd (hg.1 rfl) (hno h1)
          | false =>
            obtain ⟨k1, e, st, v0, k2, k3, k4, k5, k6⟩ := val_s h2 hv (hg.2 rfl)
            exact ⟨⟨fun h => (by cases h), fun _ => k1⟩, e, st, v0, k2, k3, k4, k5, k6⟩
        | some v1 =>
          cases v2 with
          | none =>
            simp only [Prod.mk.injEq, Option.some.injEq] at h
            obtain ⟨rfl, rfl⟩ := h
            have hg := (PX.if_den _ _ _).mp hg
            show (PX.if' c a.ok b.ok).den ∧ _
            rw [PX.if_den]
            cases c with
            | false => exact absurd (hg.2 rfl) (hno h2)
            | true =>
              obtain ⟨k1, e, st, v0, k2, k3, k4, k5, k6⟩ := val_s h1 hv (hg.1 rfl)
              exact ⟨⟨fun _ => k1, fun h => by cases h⟩, e, st, v0, k2, k3, k4, k5, k6⟩
          | some v2 =>
            simp only [Prod.mk.injEq, Option.some.injEq] at h
            exact fin v1 v2 h.1.symm h1 h2 h.2.symm
  | .chk g0 t, g, v, h, hv, hg => by
    simp only [DT.val] at h
    cases h1 : t.val res with
    | mk g1 v1 =>
      rw [h1] at h
      simp only [Prod.mk.injEq] at h
      obtain ⟨rfl, rfl⟩ := h
      have hg := (PX.land_den _ _).mp hg
      obtain ⟨k1, k2⟩ := val_s h1 hv hg.2
      exact ⟨(PX.land_den _ _).mpr ⟨hg.1, k1⟩, k2⟩
  | .bad, g, v, h, hv, hg => by simp [DT.val] at h
theorem EL.append : ∀ {a : List DC} {b : List PV} {c : List DC} {d : List PV}, EL a b → EL c d → EL (a ++ c) (b ++ d)
  | [], [], _, _, _, h => h
  | _ :: _, _ :: _, _, _, h, h' => ⟨h.1, EL.append h.2 h'⟩
theorem slots_EL : ∀ (n : Nat), EL (dslots n) (preps n)
  | 0 => trivial
  | n + 1 => ⟨.inl rfl, slots_EL n⟩
theorem boxes_EB : ∀ (n : Nat), EB (dboxes n) (prepb n)
  | 0 => trivial
  | n + 1 => ⟨.inl rfl, boxes_EB n⟩
theorem dfun_sound {f : DFun} (ho : AllD f.body.obs) {args : List DV} {g : PX} {v : DV} (h : dfun f args = (g, some v)) (hg : g.den) (hv : v ≠ .any) (hl : args.length = f.nparams) (hp : f.pure = true → v.flt = true)
    {Q : PV → List (List PV) → Prop} (hQ : ∀ H, Q v.enc H) : pfunSem f.er (DV.encL args) [] Q := by
  unfold dfun at h
  obtain ⟨hok, e, st, v0, h1, h2, h3, h4, h5⟩ := val_s h hv hg
  refine ⟨by rw [encL_len]; exact hl, fun _ => rfl, ?_⟩
  refine dev_s f.body ho (d := ⟨news args ++ dslots (f.nslots - f.nparams), dboxes f.nbox, []⟩) ⟨(EL.news args).append (slots_EL _), boxes_EB _, trivial⟩ hok h1 fun s' hs' => ?_
  obtain ⟨s2, e2⟩ := dresV_s hs' h3 h4
  rw [← h5] at e2
  have fin : (match presV s' f.res with | some (v, st) => if f.pure = true then v.flt = true ∧ Q v [] else Q v st.hp | none => False) := by
    rw [e2]
    simp only
    split
    · rename_i hpu
      exact ⟨flt_enc v (hp hpu), hQ _⟩
    · exact hQ _
  cases e with
  | normal => exact fin
  | ret => exact fin
  | exit i => exact absurd rfl (h2 i)
def TuX : List HT → Type
  | [] => Unit
  | [a] => a.D
  | a :: r => a.D × TuX r
def tuOf : (l : List HT) → List DV → Option (TuX l)
  | [], [] => some ()
  | [a], [v] => a.of v
  | a :: b :: r, v :: vs => (match a.of v, tuOf (b :: r) vs with
    | some x, some y => some (x, y)
    | _, _ => none)
  | _, _ => none
def tuDv : (l : List HT) → TuX l → List DV
  | [], _ => []
  | [a], x => [a.dv x]
  | a :: b :: r, x => a.dv x.1 :: tuDv (b :: r) x.2
inductive QT where
  | one (h : HT) | tup (l : List HT)
def QT.D : QT → Type
  | .one h => h.D
  | .tup l => TuX l
def QT.of : (q : QT) → DV → Option q.D
  | .one h, v => h.of v
  | .tup l, .tup vs => tuOf l vs
  | .tup _, _ => none
def QT.dv : (q : QT) → q.D → DV
  | .one h, x => h.dv x
  | .tup l, x => .tup (tuDv l x)
def QT.ofO (q : QT) : Option DV → Option q.D
  | some v => q.of v
  | none => none
def agDflt : (l : List (Ql × CT)) → AgX l
  | [] => ()
  | [a] => a.2.dflt
  | a :: b :: r => (a.2.dflt, agDflt (b :: r))
def HT.dflt : (h : HT) → h.D
  | .one _ t => t.dflt
  | .agg l => agDflt l
def tuDflt : (l : List HT) → TuX l
  | [] => ()
  | [a] => a.dflt
  | a :: b :: r => (a.dflt, tuDflt (b :: r))
def QT.dflt : (q : QT) → q.D
  | .one h => h.dflt
  | .tup l => tuDflt l
def HT.flt : HT → Bool
  | .one _ t => t.flat
  | .agg l => l.all fun a => a.2.flat
def QT.flt : QT → Bool
  | .one h => h.flt
  | .tup l => l.all HT.flt
theorem tu_of : ∀ {l : List HT} {vs : List DV} {x : TuX l}, tuOf l vs = some x → DV.encL (tuDv l x) = DV.encL vs
  | [], [], _, _ => rfl
  | [a], [v], x, h => by
    show [(a.dv x).enc] = [v.enc]
    rw [(ht_of (t := a) h).1]
  | a :: b :: r, v :: vs, x, h => by
    have h' : (match a.of v, tuOf (b :: r) vs with | some x, some y => some (x, y) | _, _ => none) = some x := h
    clear h
    cases h1 : a.of v with
    | none => rw [h1] at h'; cases h'
    | some p =>
      cases h2 : tuOf (b :: r) vs with
      | none => rw [h1, h2] at h'; cases h'
      | some q =>
        rw [h1, h2] at h'
        have h' := Option.some.inj h'
        subst h'
        show (a.dv p).enc :: DV.encL (tuDv (b :: r) q) = v.enc :: DV.encL vs
        rw [(ht_of h1).1, tu_of h2]
theorem qt_of {q : QT} {v : DV} {x : q.D} (h : q.of v = some x) : (q.dv x).enc = v.enc ∧ v ≠ .any := by
  cases q with
  | one t => exact ht_of (t := t) h
  | tup l =>
    cases v <;> try (cases h; done)
    rename_i cs
    refine ⟨?_, by simp⟩
    show PV.tup _ = PV.tup _
    rw [tu_of (l := l) h]
theorem tuDv_len : ∀ (l : List HT) (x : TuX l), (tuDv l x).length = l.length
  | [], _ => rfl
  | [_], _ => rfl
  | a :: b :: r, x => by
    show (tuDv (b :: r) x.2).length + 1 = (b :: r).length + 1
    rw [tuDv_len (b :: r) x.2]
theorem ct_flt {q : Ql} {t : CT} {v : DV} {x : t.D} (hf : t.flat = true) (h : t.ofQ q v = some x) : v.flt = true := by
  cases t <;> first | (cases hf; done) | skip
  all_goals (cases v <;> first | rfl | (cases h; done))
theorem ag_flt : ∀ {l : List (Ql × CT)} {vs : List DV} {x : AgX l}, l.all (fun a => a.2.flat) = true → agOf l vs = some x → DV.fltL vs = true
  | [], [], _, _, _ => rfl
  | [a], [v], x, hf, h => by
    simp only [List.all_cons, List.all_nil, Bool.and_true] at hf
    simp only [DV.fltL, ct_flt (q := a.1) hf h, Bool.and_self]
  | a :: b :: r, v :: vs, x, hf, h => by
    have h' : (match a.2.ofQ a.1 v, agOf (b :: r) vs with | some x, some y => some (x, y) | _, _ => none) = some x := h
    clear h
    rw [List.all_cons, Bool.and_eq_true] at hf
    cases h1 : a.2.ofQ a.1 v with
    | none => rw [h1] at h'; cases h'
    | some p =>
      cases h2 : agOf (b :: r) vs with
      | none => rw [h1, h2] at h'; cases h'
      | some q => simp only [DV.fltL, ct_flt hf.1 h1, ag_flt hf.2 h2, Bool.and_self]
theorem ht_flt {t : HT} {v : DV} {x : t.D} (hf : t.flt = true) (h : t.of v = some x) : v.flt = true := by
  cases t with
  | one q t => exact ct_flt (q := q) (t := t) hf h
  | agg l =>
    cases v <;> try (cases h; done)
    exact ag_flt (l := l) hf h
theorem tu_flt : ∀ {l : List HT} {vs : List DV} {x : TuX l}, l.all HT.flt = true → tuOf l vs = some x → DV.fltL vs = true
  | [], [], _, _, _ => rfl
  | [a], [v], x, hf, h => by
    simp only [List.all_cons, List.all_nil, Bool.and_true] at hf
    simp only [DV.fltL, ht_flt (t := a) hf h, Bool.and_self]
  | a :: b :: r, v :: vs, x, hf, h => by
    have h' : (match a.of v, tuOf (b :: r) vs with | some x, some y => some (x, y) | _, _ => none) = some x := h
    clear h
    rw [List.all_cons, Bool.and_eq_true] at hf
    cases h1 : a.of v with
    | none => rw [h1] at h'; cases h'
    | some p =>
      cases h2 : tuOf (b :: r) vs with
      | none => rw [h1, h2] at h'; cases h'
      | some q => simp only [DV.fltL, ht_flt hf.1 h1, tu_flt hf.2 h2, Bool.and_self]
theorem qt_flt {q : QT} {v : DV} {x : q.D} (hf : q.flt = true) (h : q.of v = some x) : v.flt = true := by
  cases q with
  | one t => exact ht_flt (t := t) hf h
  | tup l =>
    cases v <;> try (cases h; done)
    exact tu_flt (l := l) hf h
def DSemOf (hs : List HT) (q : QT) (ok : TuX hs → Prop) (v : TuX hs → q.D) : DSem := fun args => match tuOf hs args with
  | some x => some (.p (ok x), q.dv (v x))
  | none => none
def DT.valQ (q : QT) (res : List ARes) : DT → PX × Option q.D
  | .leaf (.exit _) _ => (.ff, none)
  | .leaf _ st => (match dresV st res with
    | some v => if v.ok && !v.hasPtr then (match q.of v with
      | some y => (.tt, some y)
      | none => (.ff, none)) else (.ff, none)
    | none => (.ff, none))
  | .node c a b => (match a.valQ q res, b.valQ q res with
    | (g, none), (g', y) => (PX.if' c g g', y)
    | (g, x), (g', none) => (PX.if' c g g', x)
    | (g, some x), (g', some y) => (PX.if' c g g', some (bSel c x y)))
  | .chk g t => (match t.valQ q res with
    | (g', v) => (g.land g', v))
  | .bad => (.ff, none)
theorem valQ_none {q : QT} {res : List ARes} : ∀ {t : DT} {g : PX}, t.valQ q res = (g, none) → ¬ g.den
  | .leaf e st, g, h => by
    cases e <;> simp only [DT.valQ] at h <;> (repeat' split at h) <;> simp only [Prod.mk.injEq, reduceCtorEq, and_false, and_true] at h <;> subst h <;> exact id
  | .node c x y, g, h => by
    intro hg
    simp only [DT.valQ] at h
    cases h1 : x.valQ q res with
    | mk g1 v1 =>
      cases h2 : y.valQ q res with
      | mk g2 v2 =>
        rw [h1, h2] at h
        cases v1 with
        | none =>
          simp only [Prod.mk.injEq] at h
          obtain ⟨rfl, rfl⟩ := h
          have := (PX.if_den _ _ _).mp hg
          cases c with
          | true => exact valQ_none h1 (this.1 rfl)
          | false => exact valQ_none h2 (this.2 rfl)
        | some v1 => cases v2 <;> simp at h
  | .chk g0 t, g, h => by
    intro hg
    simp only [DT.valQ] at h
    cases h1 : t.valQ q res with
    | mk g1 v1 =>
      rw [h1] at h
      simp only [Prod.mk.injEq] at h
      obtain ⟨rfl, rfl⟩ := h
      exact valQ_none h1 ((PX.land_den _ _).mp hg).2
  | .bad, g, h => by
    simp only [DT.valQ, Prod.mk.injEq, and_true] at h
    subst h; exact id
theorem valQ_s {q : QT} {res : List ARes} : ∀ {t : DT} {g : PX} {y : q.D}, t.valQ q res = (g, some y) → g.den →
    t.ok.den ∧ ∃ e st v0, t.lf = some (e, st) ∧ (∀ i, e ≠ .exit i) ∧ dresV st res = some v0 ∧ v0.ok = true ∧ q.of v0 = some y
  | .leaf e st, g, y, h, hg => by
    have gen : (match dresV st res with | some v => if (v.ok && !v.hasPtr) = true then (match q.of v with | some y => (PX.tt, some y) | none => (PX.ff, none)) else (PX.ff, none) | none => (PX.ff, none)) = (g, some y) → ∃ v, dresV st res = some v ∧ v.ok = true ∧ q.of v = some y := fun h => by
      split at h
      · rename_i v hv
        split at h
        · rename_i hc
          simp only [Bool.and_eq_true] at hc
          split at h
          · rename_i y' hy
            simp only [Prod.mk.injEq, Option.some.injEq] at h
            obtain ⟨_, rfl⟩ := h
            exact ⟨v, hv, hc.1, hy⟩
          · simp at h
        · simp at h
      · simp at h
    cases e with
    | exit i => simp [DT.valQ] at h
    | normal => obtain ⟨v, h1, h2, h3⟩ := gen h; exact ⟨trivial, .normal, st, v, rfl, by simp, h1, h2, h3⟩
    | ret => obtain ⟨v, h1, h2, h3⟩ := gen h; exact ⟨trivial, .ret, st, v, rfl, by simp, h1, h2, h3⟩
  | .node c a b, g, y, h, hg => by
    simp only [DT.valQ] at h
    show (PX.if' c a.ok b.ok).den ∧ ∃ e st v0, (DT.node c a b).lf = some (e, st) ∧ (∀ i, e ≠ .exit i) ∧ dresV st res = some v0 ∧ v0.ok = true ∧ q.of v0 = some y
    rw [PX.if_den]
    cases h1 : a.valQ q res with
    | mk g1 v1 =>
      cases h2 : b.valQ q res with
      | mk g2 v2 =>
        rw [h1, h2] at h
        have hgg : g = PX.if' c g1 g2 := by
          cases v1 <;> cases v2 <;> simp only [Prod.mk.injEq] at h <;> exact h.1.symm
        subst hgg
        have hg := (PX.if_den _ _ _).mp hg
        cases c with
        | true =>
          have : v1 = some y := by
            cases v1 with
            | none => exact absurd (hg.1 rfl) (valQ_none h1)
            | some v1 => cases v2 <;> simp only [Prod.mk.injEq, bSel_t] at h <;> exact h.2
          subst this
          obtain ⟨k1, k2⟩ := valQ_s h1 (hg.1 rfl)
          exact ⟨⟨fun _ => k1, fun h => by cases h⟩, k2⟩
        | false =>
          have : v2 = some y := by
            cases v2 with
            | none => exact absurd (hg.2 rfl) (valQ_none h2)
            | some v2 => cases v1 <;> simp only [Prod.mk.injEq, bSel_f] at h <;> exact h.2
          subst this
          obtain ⟨k1, k2⟩ := valQ_s h2 (hg.2 rfl)
          exact ⟨⟨fun h => (by cases h), fun _ => k1⟩, k2⟩
  | .chk g0 t, g, y, h, hg => by
    simp only [DT.valQ] at h
    cases h1 : t.valQ q res with
    | mk g1 v1 =>
      rw [h1] at h
      simp only [Prod.mk.injEq] at h
      obtain ⟨rfl, rfl⟩ := h
      have hg := (PX.land_den _ _).mp hg
      obtain ⟨k1, k2⟩ := valQ_s h1 hg.2
      exact ⟨(PX.land_den _ _).mpr ⟨hg.1, k1⟩, k2⟩
  | .bad, g, y, h, hg => by simp [DT.valQ] at h
def QT.isB : QT → Bool
  | .one (.one _ .bool) => true
  | _ => false
noncomputable def fnR (f : DFun) (hs : List HT) (q : QT) (x : TuX hs) : PX × Option q.D :=
  if q.isB then ((dfun f (tuDv hs x)).1, q.ofO (dfun f (tuDv hs x)).2)
  else (dev f.body ⟨news (tuDv hs x) ++ dslots (f.nslots - f.nparams), dboxes f.nbox, []⟩).valQ q f.res
noncomputable def fnV (f : DFun) (hs : List HT) (q : QT) (x : TuX hs) : q.D := (fnR f hs q x).2.getD q.dflt
noncomputable def fnOk (f : DFun) (hs : List HT) (q : QT) (x : TuX hs) : Prop := (fnR f hs q x).1.den
noncomputable def fnChk (f : DFun) (hs : List HT) (q : QT) (x : TuX hs) : Bool := (fnR f hs q x).2.isSome
def fnSt (f : DFun) (hs : List HT) (q : QT) : Bool := hs.length == f.nparams && (!f.pure || q.flt)
theorem fn_sound {f : DFun} {hs : List HT} {q : QT} (ho : AllD f.body.obs) (hst : fnSt f hs q = true) (x : TuX hs) (hc : fnChk f hs q x = true) (hok : fnOk f hs q x)
    {Q : PV → List (List PV) → Prop} (hQ : ∀ H, Q (q.dv (fnV f hs q x)).enc H) : pfunSem f.er (DV.encL (tuDv hs x)) [] Q := by
  simp only [fnSt, Bool.and_eq_true, beq_iff_eq, Bool.or_eq_true, Bool.not_eq_true'] at hst
  unfold fnChk at hc
  unfold fnV at hQ
  unfold fnOk at hok
  unfold fnR at hc hQ hok
  by_cases hb : q.isB = true
  · rw [if_pos hb] at hc hQ hok
    cases hd : dfun f (tuDv hs x) with
    | mk g o =>
      rw [hd] at hc hQ hok
      cases o with
      | none => cases hc
      | some w =>
        obtain ⟨y, hy⟩ := Option.isSome_iff_exists.mp hc
        rw [hy] at hQ
        have hy : q.of w = some y := hy
        obtain ⟨h1, h2⟩ := qt_of hy
        refine dfun_sound ho hd hok h2 (by rw [tuDv_len]; exact hst.1) (fun hp => qt_flt (by simpa [hp] using hst.2) hy) fun H => ?_
        have := hQ H
        rw [Option.getD_some, h1] at this
        exact this
  · rw [if_neg hb] at hc hQ hok
    cases hd : (dev f.body ⟨news (tuDv hs x) ++ dslots (f.nslots - f.nparams), dboxes f.nbox, []⟩).valQ q f.res with
    | mk g o =>
      rw [hd] at hc hQ hok
      cases o with
      | none => cases hc
      | some y =>
        simp only [Option.getD_some] at hQ
        obtain ⟨k1, e, st, v0, k2, k3, k4, k5, k6⟩ := valQ_s hd hok
        obtain ⟨h1, h2⟩ := qt_of k6
        refine ⟨by rw [encL_len, tuDv_len]; exact hst.1, fun _ => rfl, ?_⟩
        refine dev_s f.body ho (d := ⟨news (tuDv hs x) ++ dslots (f.nslots - f.nparams), dboxes f.nbox, []⟩) ⟨(EL.news _).append (slots_EL _), boxes_EB _, trivial⟩ k1 k2 fun s' hs' => ?_
        obtain ⟨s2, e2⟩ := dresV_s hs' k4 k5
        rw [← h1] at e2
        have fin : (match presV s' f.res with | some (v, st) => if f.pure = true then v.flt = true ∧ Q v [] else Q v st.hp | none => False) := by
          rw [e2]
          simp only
          split
          · rename_i hpu
            exact ⟨by rw [h1]; exact flt_enc _ (qt_flt (by simpa [hpu] using hst.2) k6), hQ _⟩
          · exact hQ _
        cases e with
        | normal => exact fin
        | ret => exact fin
        | exit i => exact absurd rfl (k3 i)
theorem soundD_of {f : DFun} {hs : List HT} {q : QT} (ho : AllD f.body.obs) (hst : fnSt f hs q = true) (hc : ∀ x, fnChk f hs q x = true) {ok : TuX hs → Prop} {v : TuX hs → q.D} (hok : ∀ x, ok x → fnOk f hs q x) (hv : ∀ x, fnV f hs q x = v x) :
    SoundD (pfunSem f.er) (DSemOf hs q ok v) := by
  intro args g w Q h hg hQ
  unfold DSemOf at h
  cases hx : tuOf hs args with
  | none => rw [hx] at h; cases h
  | some x =>
    rw [hx] at h
    simp only [Option.some.injEq, Prod.mk.injEq] at h
    obtain ⟨rfl, rfl⟩ := h
    rw [← tu_of hx]
    exact fn_sound ho hst x (hc x) (hok x hg) fun H => by rw [hv]; exact hQ H
attribute [irreducible] fnR fnV fnOk fnChk fnSt
open Go.RowKit Go.WideShapes Go.ChangeShapes
inductive Ty where
  | int (k : IntKind)
  | bool
  | str
  | sl (t : Ty)
  | unit
  | pair (a b : Ty)
def Ty.w : Ty → Nat
  | .int _ | .bool | .str | .sl _ => 1
  | .unit => 0
  | .pair a b => a.w + b.w
def tyFs (P : Program) (f : TypeId → Option Ty) : List Field → Nat → Option Ty
  | [], _ => some .unit
  | g :: r, off =>
    match f g.type with
    | some a => if g.offset = off ∧ a.w = P.cellsOf g.type then (match tyFs P f r (off + a.w) with | some b => some (.pair a b) | none => none) else none
    | none => none
def tyOf (P : Program) : Nat → TypeId → Option Ty
  | 0, _ => none
  | d + 1, t =>
    match P.underlying t with
    | some (.int k) => some (.int k)
    | some .bool => some .bool
    | some .string => some .str
    | some (.slice e) => (match tyOf P d e with | some te => if te.w = P.cellsOf e ∧ 0 < te.w then some (.sl te) else none | none => none)
    | some (.struct fs) => (match tyFs P (tyOf P d) fs.toList 0 with | some ty => if ty.w = P.cellsOf t then some ty else none | none => none)
    | _ => none
def Sh (σ : Heap) : Ty → List V → Prop
  | .int k, cs => ∃ n, cs = [.int k n] ∧ (Lit.int k n).wf = true
  | .bool, cs => ∃ b, cs = [.bool b]
  | .str, cs => ∃ s, cs = [.str s] ∧ s.length ≤ maxLen
  | .sl t, cs => cs = [.nils] ∨ ∃ (l n : Nat) (bs : List V), cs = [.slice l 0 n] ∧ σ[l]? = some ⟨.ro, t.w, bs⟩ ∧ bs.length = n * t.w ∧ n ≤ maxLen ∧ ∀ i, i < n → Sh σ t ((bs.drop (i * t.w)).take t.w)
  | .unit, cs => cs = []
  | .pair a b, cs => ∃ xs ys, cs = xs ++ ys ∧ Sh σ a xs ∧ Sh σ b ys
theorem Sh.len {σ : Heap} : ∀ {ty : Ty} {cs : List V}, Sh σ ty cs → cs.length = ty.w
  | .int _, _, ⟨_, h, _⟩ => by rw [h]; rfl
  | .bool, _, ⟨_, h⟩ => by rw [h]; rfl
  | .str, _, ⟨_, h, _⟩ => by rw [h]; rfl
  | .sl _, _, h => by rcases h with h | ⟨_, _, _, h, _⟩ <;> rw [h] <;> rfl
  | .unit, _, h => by rw [h]; rfl
  | .pair a b, _, ⟨xs, ys, h, h1, h2⟩ => by rw [h, List.length_append, h1.len, h2.len]; rfl
theorem Sh.mono {σ e : Heap} : ∀ {ty : Ty} {cs : List V}, Sh σ ty cs → Sh (σ ++ e) ty cs
  | .int _, _, h => h
  | .bool, _, h => h
  | .str, _, h => h
  | .sl _, _, h => by
    rcases h with h | ⟨l, n, bs, h, h1, h2, h3, h4⟩
    · exact .inl h
    · exact .inr ⟨l, n, bs, h, by rw [List.getElem?_append_left (get_len h1)]; exact h1, h2, h3, fun i hi => (h4 i hi).mono⟩
  | .unit, _, h => h
  | .pair _ _, _, ⟨xs, ys, h, h1, h2⟩ => ⟨xs, ys, h, h1.mono, h2.mono⟩
def AllRo (σ : Heap) : Prop := ∀ (l : Nat) (b : Blk), σ[l]? = some b → b.k = .ro
def Built (ι : Inj) (σ : Heap) (W : World) (ty : Ty) (cs : List Value) : Prop :=
  ∃ ι' e vs, HRel ι' (σ ++ e) W ∧ Keeps ι σ ι' (σ ++ e) ∧ AllRo (σ ++ e) ∧ Sh (σ ++ e) ty vs ∧ vs.length = cs.length ∧ ∀ (i : Nat) v x, vs[i]? = some v → cs[i]? = some x → v.cell = true ∧ ∀ β, Rel ι' (σ ++ e) β v x
theorem HRel.lay {ι : Inj} {σ : Heap} {W : World} (h : HRel ι σ W) (hro : AllRo σ) {b off c : Nat} {wd : Nat} {bs : List V} (hb : b < W.heap.size) (hc : ∀ (i : Nat) v, bs[i]? = some v → v.cell = true ∧ ∃ x, W.cell? ⟨b, off + i, none⟩ = some x ∧ ∀ β, Rel ι σ β v x) :
    HRel (upd ι σ.length ⟨b, off, c⟩) (σ ++ [⟨.ro, wd, bs⟩]) W ∧ AllRo (σ ++ [⟨.ro, wd, bs⟩]) := by
  have K := keeps_push ι σ ⟨b, off, c⟩ ⟨.ro, wd, bs⟩
  have hall : AllRo (σ ++ [⟨.ro, wd, bs⟩]) := by
    intro l blk hl
    rcases push_get hl with ⟨_, hl⟩ | ⟨_, rfl⟩
    · exact hro l blk hl
    · rfl
  refine ⟨⟨fun l blk hl hk i v hv => ?_, fun l blk hl hk => ?_, fun l l' blk blk' hne hl hl' hk hk' => ?_, fun l blk hl hk => ?_⟩, hall⟩
  · rcases push_get hl with ⟨hlt, hl⟩ | ⟨rfl, rfl⟩
    · rw [upd_other _ _ _ _ (by omega)]
      obtain ⟨a, x, b', c⟩ := h.cells l blk hl hk i v hv
      exact ⟨a, x, b', fun β => (c β).cellMono K a⟩
    · rw [upd_same]
      obtain ⟨a, x, b', c⟩ := hc i v hv
      exact ⟨a, x, b', fun β => (c β).cellMono K a⟩
  · have := hall l blk hl; rw [hk] at this; cases this
  · have := hall l blk hl; rw [hk] at this; cases this
  · rcases push_get hl with ⟨hlt, hl⟩ | ⟨rfl, rfl⟩
    · rw [upd_other _ _ _ _ (by omega)]; exact h.there l blk hl hk
    · rw [upd_same]; exact hb
theorem cell_block_lt {w : World} {a : Addr} {v : Value} (h : w.cell? a = some v) : a.block < w.heap.size := by
  unfold World.cell? at h
  rcases Nat.lt_or_ge a.block w.heap.size with h1 | h1
  · exact h1
  · rw [Array.getElem?_eq_none h1] at h; cases h
theorem get_lt {α : Type} {l : List α} {i : Nat} {v : α} (h : l[i]? = some v) : i < l.length := by
  rcases Nat.lt_or_ge i l.length with h1 | h1
  · exact h1
  · rw [List.getElem?_eq_none h1] at h; cases h
section
variable {H : Type} {enc : TypeId × Value → H} {P : Program} {W : World}
theorem built_fields (d : Nat) (ih : ∀ (t : TypeId) (ty : Ty), tyOf P d t = some ty → ∀ (fuel : Nat) (cs : List Value) x, DataW.trod enc P W 0 (fun _ => true) true fuel t cs = some x → ∀ (ι : Inj) (σ : Heap), HRel ι σ W → AllRo σ → Built ι σ W ty cs) :
    ∀ (fs : List Field) (off : Nat) (ty : Ty), tyFs P (tyOf P d) fs off = some ty → ∀ (fuel : Nat) (cs : List Value), (∀ g ∈ fs, ∃ x, DataW.trod enc P W 0 (fun _ => true) true fuel g.type ((cs.drop g.offset).take (P.cellsOf g.type)) = some x) →
      off + ty.w = cs.length → ∀ (ι : Inj) (σ : Heap), HRel ι σ W → AllRo σ → Built ι σ W ty (cs.drop off)
  | [], off, ty, h, fuel, cs, _, hl, ι, σ, H, hro => by
    simp only [tyFs, Option.some.injEq] at h
    subst h
    simp only [Ty.w, Nat.add_zero] at hl
    have : cs.drop off = [] := by rw [hl]; simp
    rw [this]
    exact ⟨ι, [], [], by simpa using H, by simpa using Keeps.refl ι σ, by simpa using hro, rfl, rfl, by simp⟩
  | g :: r, off, ty, h, fuel, cs, hg, hl, ι, σ, H, hro => by
    simp only [tyFs] at h
    split at h
    · rename_i a ha
      split at h
      · rename_i hc
        obtain ⟨h1, h2⟩ := hc
        split at h
        · rename_i b hb
          cases h
          simp only [Ty.w] at hl
          obtain ⟨x, hx⟩ := hg g (by simp)
          rw [h1] at hx
          obtain ⟨ι1, e1, vs1, H1, K1, R1, S1, L1, C1⟩ := ih g.type a ha fuel _ x hx ι σ H hro
          obtain ⟨ι2, e2, vs2, H2, K2, R2, S2, L2, C2⟩ := built_fields d ih r (off + a.w) b hb fuel cs (fun g' hg' => hg g' (by simp [hg'])) (by omega) ι1 (σ ++ e1) H1 R1
          refine ⟨ι2, e1 ++ e2, vs1 ++ vs2, by rw [← List.append_assoc]; exact H2, by rw [← List.append_assoc]; exact K1.trans K2, by rw [← List.append_assoc]; exact R2, ⟨vs1, vs2, rfl, by rw [← List.append_assoc]; exact S1.mono, by rw [← List.append_assoc]; exact S2⟩, ?_, fun i v y hv hy => ?_⟩
          · rw [List.length_append, L1, L2]
            simp; omega
          · have hl1 : vs1.length = a.w := S1.len
            by_cases hi : i < vs1.length
            · rw [List.getElem?_append_left hi] at hv
              have hy' : ((cs.drop off).take (P.cellsOf g.type))[i]? = some y := by
                rw [List.getElem?_take, if_pos (by omega)]; exact hy
              obtain ⟨q1, q2⟩ := C1 i v y hv hy'
              exact ⟨q1, fun β => by rw [← List.append_assoc]; exact (q2 β).cellMono K2 q1⟩
            · rw [List.getElem?_append_right (by omega)] at hv
              have hy' : (cs.drop (off + a.w))[i - vs1.length]? = some y := by
                rw [List.getElem?_drop] at hy ⊢
                have : off + a.w + (i - vs1.length) = off + i := by omega
                rw [this]; exact hy
              obtain ⟨q1, q2⟩ := C2 _ v y hv hy'
              exact ⟨q1, fun β => by rw [← List.append_assoc]; exact q2 β⟩
        · cases h
      · cases h
    · cases h
theorem add_off {b o : Nat} (n : Nat) : Addr.add ⟨b, o, none⟩ n = ⟨b, o + n, none⟩ := by
  unfold Addr.add
  split
  · rename_i h; subst h; rfl
  · rfl
theorem built_elems {d : Nat} (ih : ∀ (t : TypeId) (ty : Ty), tyOf P d t = some ty → ∀ (fuel : Nat) (cs : List Value) x, DataW.trod enc P W 0 (fun _ => true) true fuel t cs = some x → ∀ (ι : Inj) (σ : Heap), HRel ι σ W → AllRo σ → Built ι σ W ty cs)
    {e : TypeId} {te : Ty} (hte : tyOf P d e = some te) (hw : te.w = P.cellsOf e) {fuel b o : Nat} :
    ∀ (n : Nat), (∀ i, i < n → ∃ cs x, W.cells? 0 ⟨b, o + i * te.w, none⟩ te.w = some cs ∧ DataW.trod enc P W 0 (fun _ => true) true fuel e cs = some x) → ∀ (ι : Inj) (σ : Heap), HRel ι σ W → AllRo σ →
      ∃ (ι' : Inj) (ext : Heap) (bs : List V), HRel ι' (σ ++ ext) W ∧ Keeps ι σ ι' (σ ++ ext) ∧ AllRo (σ ++ ext) ∧ bs.length = n * te.w ∧ (∀ i, i < n → Sh (σ ++ ext) te ((bs.drop (i * te.w)).take te.w)) ∧
        ∀ (j : Nat) v, bs[j]? = some v → v.cell = true ∧ ∃ x, W.cell? ⟨b, o + j, none⟩ = some x ∧ ∀ β, Rel ι' (σ ++ ext) β v x
  | 0, _, ι, σ, H0, hro => ⟨ι, [], [], by simpa using H0, by simpa using Keeps.refl ι σ, by simpa using hro, by simp, fun i hi => absurd hi (Nat.not_lt_zero i), by simp⟩
  | n + 1, hn, ι, σ, H0, hro => by
    obtain ⟨ι1, e1, bs, H1, K1, R1, L1, S1, C1⟩ := built_elems ih hte hw n (fun i hi => hn i (Nat.lt_succ_of_lt hi)) ι σ H0 hro
    obtain ⟨cs, x, hc, hx⟩ := hn n (Nat.lt_succ_self n)
    obtain ⟨ι2, e2, vs, H2, K2, R2, S2, L2, C2⟩ := ih e te hte fuel cs x hx ι1 (σ ++ e1) H1 R1
    obtain ⟨_, hcl, hcg⟩ := World.cells?_some hc
    refine ⟨ι2, e1 ++ e2, bs ++ vs, by rw [← List.append_assoc]; exact H2, by rw [← List.append_assoc]; exact K1.trans K2, by rw [← List.append_assoc]; exact R2, ?_, fun i hi => ?_, fun j v hv => ?_⟩
    · rw [List.length_append, L1, L2, hcl, Nat.succ_mul]
    · rw [← List.append_assoc]
      by_cases h : i < n
      · have h1 : (i + 1) * te.w ≤ n * te.w := Nat.mul_le_mul_right _ h
        rw [Nat.succ_mul] at h1
        have : ((bs ++ vs).drop (i * te.w)).take te.w = (bs.drop (i * te.w)).take te.w := by
          rw [List.drop_append_of_le_length (by omega), List.take_append_of_le_length (by rw [List.length_drop]; omega)]
        rw [this]
        exact (S1 i h).mono
      · have : i = n := by omega
        subst this
        have : ((bs ++ vs).drop (i * te.w)).take te.w = vs := by
          rw [← L1, List.drop_left, List.take_of_length_le (by omega)]
        rw [this]
        exact S2
    · by_cases h : j < bs.length
      · rw [List.getElem?_append_left h] at hv
        obtain ⟨q1, y, q2, q3⟩ := C1 j v hv
        exact ⟨q1, y, q2, fun β => by rw [← List.append_assoc]; exact (q3 β).cellMono K2 q1⟩
      · rw [List.getElem?_append_right (by omega)] at hv
        have hlt := get_lt hv
        have hlt' : j - bs.length < te.w := by rw [← hcl, ← L2]; exact hlt
        have hg := hcg (j - bs.length) hlt'
        rw [add_off] at hg
        have e0 : o + n * te.w + (j - bs.length) = o + j := by omega
        rw [e0] at hg
        obtain ⟨y, hy⟩ : ∃ y, cs[j - bs.length]? = some y := ⟨_, List.getElem?_eq_getElem (by omega)⟩
        obtain ⟨q1, q2⟩ := C2 _ v y hv hy
        exact ⟨q1, y, hg.trans hy, fun β => by rw [← List.append_assoc]; exact q2 β⟩
theorem built_of_trod : ∀ (d : Nat) (t : TypeId) (ty : Ty), tyOf P d t = some ty → ∀ (fuel : Nat) (cs : List Value) x, DataW.trod enc P W 0 (fun _ => true) true fuel t cs = some x → ∀ (ι : Inj) (σ : Heap), HRel ι σ W → AllRo σ → Built ι σ W ty cs
  | 0, _, _, h => by simp [tyOf] at h
  | d + 1, t, ty, h => by
    intro fuel cs x hx ι σ H0 hro
    have one : ∀ (v : V) (y : Value), cs = [y] → v.cell = true → (∀ β, Rel ι σ β v y) → Sh σ ty [v] → Built ι σ W ty cs := by
      intro v y hc hv hr hs
      refine ⟨ι, [], [v], by simpa using H0, by simpa using Keeps.refl ι σ, by simpa using hro, by simpa using hs, by rw [hc]; rfl, fun i u z hu hz => ?_⟩
      rw [hc] at hz
      cases i with
      | zero => simp at hu hz; subst hu; subst hz; exact ⟨hv, by simpa using hr⟩
      | succ i => simp at hu
    unfold tyOf at h
    split at h
    · rename_i k hu
      cases h
      obtain ⟨n, hc, _, hwf⟩ := DataW.trod_int hu hx
      exact one (.int k n) _ hc rfl (fun β => .int k n) ⟨n, rfl, hwf⟩
    · rename_i hu
      cases h
      obtain ⟨b, hc, _⟩ := DataW.trod_bool hu hx
      exact one (.bool b) _ hc rfl (fun β => .bool b) ⟨b, rfl⟩
    · rename_i hu
      cases h
      obtain ⟨s, hc, _, hwf⟩ := DataW.trod_string hu hx
      exact one (.str s.data.toList) _ hc rfl (fun β => by have := Rel.str (ι := ι) (σ := σ) (β := β) s.data.toList; simpa using this) ⟨s.data.toList, rfl, by simpa using hwf⟩
    · rename_i e hu
      split at h
      · rename_i te hte
        split at h
        · rename_i hw
          obtain ⟨hw, hpos⟩ := hw
          cases h
          rcases DataW.trod_slice hu hx with ⟨hc, _⟩ | ⟨a, len, cap, elems, rest, n, _, hc, _, _, hle, hcap, hel, hE, hR, _⟩
          · exact one .nils _ hc rfl (fun β => .nils none) (.inl rfl)
          · obtain ⟨hrl, hR⟩ := hR rfl
            have hcell : ∀ i, i < cap → ∃ cs' y, W.cells? 0 (a.add (i * P.cellsOf e)) (P.cellsOf e) = some cs' ∧ DataW.trod enc P W 0 (fun _ => true) true n e cs' = some y := by
              intro i hi
              by_cases h : i < len
              · have h1 := hE i h
                obtain ⟨y, hy⟩ : ∃ y, elems[i]? = some y := ⟨_, List.getElem?_eq_getElem (by omega)⟩
                rw [hy, Option.bind_eq_some_iff] at h1
                obtain ⟨cs', h1, h2⟩ := h1
                exact ⟨cs', y, h1, h2⟩
              · have h1 := hR (i - len) (by omega)
                obtain ⟨y, hy⟩ : ∃ y, rest[i - len]? = some y := ⟨_, List.getElem?_eq_getElem (by omega)⟩
                rw [hy, Option.bind_eq_some_iff] at h1
                obtain ⟨cs', h1, h2⟩ := h1
                rw [show len + (i - len) = i by omega] at h1
                exact ⟨cs', y, h1, h2⟩
            by_cases hc0 : cap = 0
            · subst hc0
              have : len = 0 := by omega
              subst this
              exact one .nils _ hc rfl (fun β => .nils (some a)) (.inl rfl)
            · have hsp : a.spot = none ∧ a.block < W.heap.size := by
                obtain ⟨cs', y, h1, _⟩ := hcell 0 (by omega)
                obtain ⟨_, h2, h3⟩ := World.cells?_some h1
                have h4 := h3 0 (by omega)
                obtain ⟨z, hz⟩ : ∃ z, cs'[0]? = some z := ⟨_, List.getElem?_eq_getElem (by omega)⟩
                rw [hz] at h4
                have h5 : W.cell? a = some z := by simpa [Addr.add] using h4
                exact ⟨World.cell?_spot h5, cell_block_lt h5⟩
              obtain ⟨ab, ao, asp⟩ := a
              obtain ⟨hsp, hlt⟩ := hsp
              simp only at hsp hlt
              subst hsp
              have hcell' : ∀ i, i < len → ∃ cs' y, W.cells? 0 ⟨ab, ao + i * te.w, none⟩ te.w = some cs' ∧ DataW.trod enc P W 0 (fun _ => true) true n e cs' = some y := by
                intro i hi
                have := hcell i (by omega)
                rw [add_off, ← hw] at this
                exact this
              obtain ⟨ι1, e1, bs, H1, K1, R1, L1, S1, C1⟩ := built_elems (built_of_trod d) hte hw len hcell' ι σ H0 hro
              obtain ⟨H2, R2⟩ := H1.lay R1 (c := cap * te.w) (wd := te.w) hlt C1
              have K2 := keeps_push ι1 (σ ++ e1) ⟨ab, ao, cap * te.w⟩ ⟨.ro, te.w, bs⟩
              have hg : ((σ ++ e1) ++ [(⟨.ro, te.w, bs⟩ : Blk)])[(σ ++ e1).length]? = some ⟨.ro, te.w, bs⟩ := by simp
              refine ⟨_, e1 ++ [⟨.ro, te.w, bs⟩], [.slice (σ ++ e1).length 0 len], by rw [← List.append_assoc]; exact H2, by rw [← List.append_assoc]; exact K1.trans K2, by rw [← List.append_assoc]; exact R2, .inr ⟨_, len, bs, rfl, by rw [← List.append_assoc]; exact hg, L1, by omega, fun i hi => by rw [← List.append_assoc]; exact (S1 i hi).mono⟩, by rw [hc]; rfl, fun i u z hu hz => ?_⟩
              rw [hc] at hz
              cases i with
              | zero =>
                simp at hu hz; subst hu; subst hz
                refine ⟨rfl, fun β => ?_⟩
                have := Rel.slice (ι := upd ι1 (σ ++ e1).length ⟨ab, ao, cap * te.w⟩) (σ := (σ ++ e1) ++ [⟨.ro, te.w, bs⟩]) (β := β) (σ ++ e1).length 0 len cap ⟨.ro, te.w, bs⟩ hg hle (by rw [upd_same]; simp)
                rw [upd_same] at this
                simpa using this
              | succ i => simp at hu
        · cases h
      · cases h
    · rename_i fs hu
      split at h
      · rename_i ty' hty
        split at h
        · rename_i hw
          cases h
          obtain ⟨xs, n, _, _, hl, hxl, hf⟩ := DataW.trod_struct hu hx
          have := built_fields (enc := enc) d (built_of_trod d) fs.toList 0 _ hty n cs (fun g hg => by
            obtain ⟨i, hi⟩ := List.getElem?_of_mem hg
            have h1 := hf i g (by simpa using hi)
            have : i < xs.length := by rw [hxl]; have := get_lt hi; simpa using this
            exact ⟨_, h1.trans (List.getElem?_eq_getElem this)⟩) (by omega) ι σ H0 hro
          simpa using this
        · cases h
      · cases h
    · cases h
end
open Go.RowKit Go.WideShapes Go.ChangeShapes
def argTy (P : Program) (d : Nat) (t : TypeId) : Option (Ty × Bool) :=
  match tyOf P d t with
  | some ty => (match P.underlying t with
    | some (.struct _) => some (ty, true)
    | some (.int _) | some .bool | some .string | some (.slice _) => some (ty, false)
    | _ => none)
  | none => none
def argTys (P : Program) (d : Nat) : List TypeId → Option (List (Ty × Bool))
  | [] => some []
  | t :: r => match argTy P d t, argTys P d r with
    | some a, some b => some (a :: b)
    | _, _ => none
def ArgOk (σ : Heap) : Ty × Bool → V → Prop
  | (ty, true), v => ∃ cs, v = .agg cs ∧ Sh σ ty cs ∧ cs.all V.cell = true
  | (ty, false), v => Sh σ ty [v] ∧ v.cell = true
def ArgsOk (σ : Heap) : List (Ty × Bool) → List V → Prop
  | [], [] => True
  | a :: r, v :: s => ArgOk σ a v ∧ ArgsOk σ r s
  | _, _ => False
theorem ArgOk.mono {σ e : Heap} {a : Ty × Bool} {v : V} (h : ArgOk σ a v) : ArgOk (σ ++ e) a v := by
  obtain ⟨ty, b⟩ := a
  cases b with
  | true => obtain ⟨cs, h1, h2, h3⟩ := h; exact ⟨cs, h1, h2.mono, h3⟩
  | false => exact ⟨h.1.mono, h.2⟩
theorem ArgOk.noBox {σ : Heap} {a : Ty × Bool} {v : V} (h : ArgOk σ a v) : ∀ i o, v ≠ .box i o := by
  obtain ⟨ty, b⟩ := a
  intro i o e
  subst e
  cases b with
  | true => obtain ⟨cs, h1, _⟩ := h; cases h1
  | false => have := h.2; cases this
section
variable {H : Type} {enc : TypeId × Value → H} {P : Program} {W : World} {r : Reach} {base : Nat}
theorem built_arg {d : Nat} {t : TypeId} {a : Ty × Bool} (ha : argTy P d t = some a) {v : Value} {dd : DataW H} {ps : List MemPlace} (h : DataW.Trod enc P W 0 (fun _ => true) true t v dd ps) (hok : Value.okWide P W r base t v)
    (ι : Inj) (σ : Heap) (H0 : HRel ι σ W) (hro : AllRo σ) :
    ∃ ι' e u, HRel ι' (σ ++ e) W ∧ Keeps ι σ ι' (σ ++ e) ∧ AllRo (σ ++ e) ∧ ArgOk (σ ++ e) a u ∧ ∀ β, Rel ι' (σ ++ e) β u v := by
  unfold argTy at ha
  split at ha
  · rename_i ty hty
    obtain ⟨fuel, hx⟩ := h
    obtain ⟨ι', e, vs, h1, h2, h3, h4, h5, h6⟩ := built_of_trod d t ty hty fuel _ _ hx ι σ H0 hro
    have one : ∀ (hc : v.cells = #[v]), a = (ty, false) → ∃ ι' e u, HRel ι' (σ ++ e) W ∧ Keeps ι σ ι' (σ ++ e) ∧ AllRo (σ ++ e) ∧ ArgOk (σ ++ e) a u ∧ ∀ β, Rel ι' (σ ++ e) β u v := by
      intro hc ea
      rw [hc] at h5 h6
      match vs, h5, h4, h6 with
      | [u], _, h4, h6 =>
        obtain ⟨c1, c2⟩ := h6 0 u v rfl rfl
        exact ⟨ι', e, u, h1, h2, h3, by rw [ea]; exact ⟨h4, c1⟩, c2⟩
    split at ha
    · rename_i fs hu
      cases ha
      obtain ⟨cs, rfl, _⟩ := okWide_struct hu hok
      replace h5 : vs.length = cs.toList.length := h5
      refine ⟨ι', e, .agg vs, h1, h2, h3, ⟨vs, rfl, h4, ?_⟩, fun β => ?_⟩
      · rw [List.all_eq_true]
        intro u hu'
        obtain ⟨i, hi⟩ := List.getElem?_of_mem hu'
        have : i < cs.toList.length := by rw [← h5]; exact get_lt hi
        exact (h6 i u _ hi (List.getElem?_eq_getElem this)).1
      · have := Rel.agg (ι := ι') (σ := σ ++ e) (β := β) vs cs.toList h5 (fun u hu' => by
          obtain ⟨i, hi⟩ := List.getElem?_of_mem hu'
          have : i < cs.toList.length := by rw [← h5]; exact get_lt hi
          exact (h6 i u _ hi (List.getElem?_eq_getElem this)).1) (fun i u w hi hw => (h6 i u w hi hw).2 β)
        simpa using this
    · rename_i k hu
      cases ha
      obtain ⟨n, rfl⟩ := okWide_int hu hok
      exact one rfl rfl
    · rename_i hu
      cases ha
      obtain ⟨n, rfl⟩ := okWide_bool hu hok
      exact one rfl rfl
    · rename_i hu
      cases ha
      obtain ⟨n, rfl⟩ := okWide_string hu hok
      exact one rfl rfl
    · rename_i el hu
      cases ha
      obtain ⟨x, y, z, rfl⟩ := okWide_slice hu hok
      exact one rfl rfl
    · cases ha
  · cases ha
theorem built_args {d : Nat} : ∀ {ts : List TypeId} {tys : List (Ty × Bool)}, argTys P d ts = some tys → ∀ {vs : List Value} {ds : List (DataW H)} {ps : List MemPlace}, DataW.TrodAll enc P W 0 (fun _ => true) true ts vs ds ps →
    (∀ (j : Nat) t v, ts[j]? = some t → vs[j]? = some v → Value.okWide P W r base t v) → ∀ (ι : Inj) (σ : Heap), HRel ι σ W → AllRo σ →
    ∃ ι' e us, HRel ι' (σ ++ e) W ∧ Keeps ι σ ι' (σ ++ e) ∧ AllRo (σ ++ e) ∧ ArgsOk (σ ++ e) tys us ∧ us.length = vs.length ∧ ∀ (i : Nat) u v, us[i]? = some u → vs[i]? = some v → (∀ j o, u ≠ .box j o) ∧ ∀ β, Rel ι' (σ ++ e) β u v
  | [], tys, h, vs, ds, ps, hd, _, ι, σ, H0, hro => by
    obtain ⟨rfl, _, _⟩ := trodAll_nil hd
    cases h
    exact ⟨ι, [], [], by simpa using H0, by simpa using Keeps.refl ι σ, by simpa using hro, trivial, rfl, by simp⟩
  | t :: ts, tys, h, vs, ds, ps, hd, hok, ι, σ, H0, hro => by
    obtain ⟨v, vs', x, ds', p, q, rfl, rfl, rfl, h1, h2⟩ := trodAll_cons hd
    unfold argTys at h
    split at h
    · rename_i a b ha hb
      cases h
      obtain ⟨ι1, e1, u, H1, K1, R1, A1, C1⟩ := built_arg ha h1 (hok 0 t v rfl rfl) ι σ H0 hro
      obtain ⟨ι2, e2, us, H2, K2, R2, A2, L2, C2⟩ := built_args hb h2 (fun j t' v' hj hv => hok (j + 1) t' v' hj hv) ι1 (σ ++ e1) H1 R1
      refine ⟨ι2, e1 ++ e2, u :: us, by rw [← List.append_assoc]; exact H2, by rw [← List.append_assoc]; exact K1.trans K2, by rw [← List.append_assoc]; exact R2, by rw [← List.append_assoc]; exact ⟨A1.mono, A2⟩, by simp [L2], fun i u' v' hu hv => ?_⟩
      rw [← List.append_assoc]
      cases i with
      | zero =>
        simp at hu hv; subst hu; subst hv
        exact ⟨A1.noBox, fun β => (C1 β).mono K2 (fun j o e => absurd e (A1.noBox j o))⟩
      | succ i => exact C2 i u' v' (by simpa using hu) (by simpa using hv)
    · cases h
end
def rowsOk (P : Program) (ts : List TypeId) : Bool := ts.all fun t => P.readableRec t && decide (t < P.types.size)
theorem trodAll_stays {H : Type} {enc : TypeId × Value → H} {P : Program} (hl : laidOutB P = true) {W W' : World} {sp' : Nat → Bool} : ∀ {ts : List TypeId} {vs : List Value} {ds : List (DataW H)} {ps : List MemPlace}, rowsOk P ts = true →
    DataW.TrodAll enc P W 0 (fun _ => true) true ts vs ds ps → (∀ p ∈ ps, W.sameAt W' p) → (∀ p ∈ ps, sp' p.block = true) → DataW.TrodAll enc P W' 0 sp' true ts vs ds ps
  | [], vs, ds, ps, _, h, _, _ => by
    obtain ⟨rfl, rfl, rfl⟩ := trodAll_nil h
    rfl
  | t :: ts, vs, ds, ps, hr, h, h1, h2 => by
    obtain ⟨v, vs', x, ds', p, q, rfl, rfl, rfl, g1, g2⟩ := trodAll_cons h
    unfold rowsOk at hr
    rw [List.all_cons, Bool.and_eq_true, Bool.and_eq_true, decide_eq_true_eq] at hr
    exact ⟨p, q, WideElems.Trod_stays hl hr.1.1 hr.1.2 g1 (fun y hy => h1 y (by simp [hy])) (fun y hy => h2 y (by simp [hy])), trodAll_stays hl hr.2 g2 (fun y hy => h1 y (by simp [hy])) (fun y hy => h2 y (by simp [hy])), rfl⟩
theorem post_of_under {H : Type} {enc : TypeId × Value → H} {P : Program} {f : Func} {s : ChangeSpec} {apart fresh handsOn again : Bool} {W W' : World} {args : Array Value} {v : Value} {ds gs : List (DataW H)} {before pa pv : List MemPlace}
    (hW : DataW.Whole enc P f.params.toList s.vars apart W args.toList ds gs before)
    (hres : ∀ (b : Nat) (sp : Nat → Bool) (hd : Bool), DataW.TrodAll enc P W' b sp hd f.resultTypes.toList (v.resultList f.resultTypes.size) (s.fn H (ds ++ gs)).results [])
    (hargs : ∀ sp : Nat → Bool, (∀ p ∈ before, sp p.block = true) → DataW.TrodAll enc P W' 0 sp true f.params.toList args.toList (s.fn H (ds ++ gs)).args pa)
    (hvars : ∀ sp : Nat → Bool, (∀ p ∈ before, sp p.block = true) → DataW.TrodVars enc P W' sp s.vars (s.fn H (ds ++ gs)).vars pv)
    (hps : before = pa ++ pv) (hb : Below W.heap.size W W')
    (hok : ∀ (j : Nat) (t : TypeId) (r : Value), f.resultTypes[j]? = some t → (v.resultList f.resultTypes.size)[j]? = some r → Value.okWide P W' .any 0 t r) :
    s.post enc P f apart fresh handsOn again W args v W' := by
  have hlt : ∀ p ∈ before, p.block < W.heap.size := fun p hp => hW.lt p hp
  have hold : ∀ p ∈ before, (fun b => decide (b < W.heap.size)) p.block = true := fun p hp => by simpa using hlt p hp
  refine ⟨ds, gs, before, [], pa, pv, hW, hres _ _ _, hargs _ hold, hvars _ hold, World.keptBut_mono (fun p hp => ⟨hp, ?_⟩) (hb.frame (· ∈ before)), fun _ => ?_⟩
  · rw [hps, List.mem_append] at hp
    exact Or.inr hp
  · obtain ⟨_, _, _, _, _, hz, hn⟩ := hW
    refine ⟨hok, _, _, ([] ++ pa) ++ pv, ⟨[] ++ pa, pv, trodAll_append (hargs _ (fun _ _ => rfl)) (hres _ _ _), hvars _ (fun _ _ => rfl), rfl, ?_, ?_⟩, ?_⟩
    · intro b off hp
      have hin : MemPlace.cell b off ∈ before := by rw [hps]; simpa using hp
      rw [hb.frozen (hlt _ hin)]
      exact hz b off hin
    · intro ha
      have := hn ha
      rw [hps] at this
      simpa using this
    · intro p hp _
      rw [hps]
      simpa using hp
theorem law_contract {H : Type} {enc : TypeId × Value → H} {P : Program} {f : FuncId} {fn : Func} {s : ChangeSpec} {apart fresh handsOn again : Bool} {sem : CallSem} {tys : List (Ty × Bool)} {d : Nat} {tb : TypeId}
    (hs : SoundCall P f sem) (has : argTys P d fn.params.toList = some tys) (hrows : rowsOk P fn.params.toList = true) (hl : laidOutB P = true)
    (hres : fn.resultTypes = #[tb]) (htb : P.underlying tb = some .bool) (hvars : s.vars = [])
    (hspec : ∀ ds : List (DataW H), ds.length = tys.length → s.fn H ds = { results := [.lit (.bool true)], args := ds })
    (law : ∀ (σ : Heap) (us : List V), AllRo σ → ArgsOk σ tys us → sem us σ fun r _ => r = .bool true)
    {W : World} {base : Nat} {args : Array Value} {ds gs : List (DataW H)} {before : List MemPlace}
    (hval : ∀ (j : Nat) t v, fn.params[j]? = some t → args[j]? = some v → Value.okWide P W .any base t v)
    (hW : DataW.Whole enc P fn.params.toList s.vars apart W args.toList ds gs before) :
    Calls P f args W fun e W' => ∃ v, e = .returned v ∧ s.post enc P fn apart fresh handsOn again W args v W' := by
  have hW' := hW
  obtain ⟨p, q, hA, hV, rfl, hfz, hnd⟩ := hW
  rw [hvars] at hV
  obtain ⟨rfl, rfl⟩ := trodVars_none hV
  rw [List.append_nil] at hW'
  obtain ⟨ι, e, us, H1, _, R1, A1, L1, C1⟩ := built_args (d := d) has hA (fun j t v hj hv => hval j t v (by simpa using hj) (by simpa using hv)) (fun _ => ⟨0, 0, 0⟩) [] ⟨by simp, by simp, by simp, by simp⟩ (fun l b h => by simp at h)
  simp only [List.nil_append] at H1 R1 A1 C1
  have hc := hs ι e W us args.toList _ H1 ⟨L1, fun i u v hu hv => (C1 i u v hu hv).2⟩ (law e us R1 A1)
  have hlen : ds.length = tys.length := by
    have h1 : ∀ {ts : List TypeId} {tys : List (Ty × Bool)}, argTys P d ts = some tys → tys.length = ts.length := by
      intro ts
      induction ts with
      | nil => intro tys h; cases h; rfl
      | cons t ts ih =>
        intro tys h
        unfold argTys at h
        split at h
        · rename_i a b _ hb
          cases h
          simp [ih hb]
        · cases h
    have h2 : ∀ {ts : List TypeId} {vs : List Value} {ds : List (DataW H)} {ps : List MemPlace}, DataW.TrodAll enc P W 0 (fun _ => true) true ts vs ds ps → ds.length = ts.length := by
      intro ts
      induction ts with
      | nil => intro vs ds ps h; obtain ⟨_, rfl, _⟩ := trodAll_nil h; rfl
      | cons t ts ih =>
        intro vs ds ps h
        obtain ⟨v, vs', x, ds', p, q, rfl, rfl, rfl, _, g2⟩ := trodAll_cons h
        simp [ih g2]
    rw [h1 has, h2 hA]
  refine (Calls.mono (by simpa using hc) fun en W' hd => ?_ : Calls P f args W _)
  obtain ⟨x, r, σ', ι', rfl, rfl, hx, _, hstep⟩ := hd
  have hx' := hx (fun _ => 0)
  cases hx'
  have hb : Below W.heap.size W W' := ⟨hstep.os, hstep.tape, hstep.output, hstep.size, fun k hk => hstep.frame k hk fun l blk hl hk' => by have := R1 l blk hl; rw [hk'] at this; cases this⟩
  have hfn := hspec (ds ++ []) (by simpa using hlen)
  have hlt : ∀ x ∈ p, x.block < W.heap.size := fun x hx => hW'.lt x hx
  refine ⟨_, rfl, post_of_under (pa := p) (pv := []) hW' (fun _ _ _ => ?_) (fun sp hsp => ?_) (fun sp _ => ?_) (by simp) hb (ok_one hres rfl (okWide_bool_mk htb true))⟩
  · rw [hfn, hres]
    exact trodAll_cons_mk (shut_bool htb true) trodAll_mk0
  · rw [hfn]
    simp only [List.append_nil]
    exact trodAll_stays hl hrows hA (fun x hx => hb.same (hlt x hx)) hsp
  · rw [hfn, hvars]
    rfl
open Go.ChangeShapes
mutual
def CT.wf : (t : CT) → t.D → Prop
  | .int k, n => (Lit.int k n).wf = true
  | .bool, _ => True
  | .str, s => s.length ≤ maxLen
  | .ifc, _ => True
  | .sl r, l => @List.length r.D l ≤ maxLen ∧ ∀ x : r.D, @Membership.mem r.D (List r.D) inferInstance l x → RT.wf r x
def RT.wf : (r : RT) → r.D → Prop
  | .one t, x => CT.wf t x
  | .cons t r, x => CT.wf t x.1 ∧ RT.wf r x.2
end
def AgX.wf : (l : List (Ql × CT)) → AgX l → Prop
  | [], _ => True
  | [a], x => a.2.wf x
  | a :: b :: r, x => a.2.wf x.1 ∧ AgX.wf (b :: r) x.2
def HT.wf : (h : HT) → h.D → Prop
  | .one _ t, x => t.wf x
  | .agg l, x => AgX.wf l x
def TuX.wf : (l : List HT) → TuX l → Prop
  | [], _ => True
  | [a], x => a.wf x
  | a :: b :: r, x => a.wf x.1 ∧ TuX.wf (b :: r) x.2
def rtOf : List CT → RT
  | [] => .one .bool
  | [a] => .one a
  | a :: b :: r => .cons a (rtOf (b :: r))
def Ty.cts : Ty → List CT
  | .int k => [.int k]
  | .bool => [.bool]
  | .str => [.str]
  | .sl t => [.sl (rtOf t.cts)]
  | .unit => []
  | .pair a b => a.cts ++ b.cts
def Ty.good : Ty → Bool
  | .sl t => Nat.blt 0 t.w && t.good
  | .pair a b => a.good && b.good
  | _ => true
def htOf : Ty × Bool → HT
  | (ty, true) => .agg (ty.cts.map fun t => (.frz, t))
  | (ty, false) => match ty.cts with | [c] => .one .frz c | _ => .agg []
def argGood : Ty × Bool → Bool
  | (ty, true) => ty.good
  | (ty, false) => ty.good && ty.cts.length == 1
def DL : List CT → Type
  | [] => Unit
  | a :: r => a.D × DL r
def DL.wf : (l : List CT) → DL l → Prop
  | [], _ => True
  | a :: r, x => a.wf x.1 ∧ DL.wf r x.2
def DL.enc : (l : List CT) → DL l → List PV
  | [], _ => []
  | a :: r, x => CT.enc a x.1 :: DL.enc r x.2
def DL.encF : (l : List CT) → DL l → List PV
  | [], _ => []
  | a :: r, x => (CT.dv .frz a x.1).enc :: DL.encF r x.2
def DL.app : (l m : List CT) → DL l → DL m → DL (l ++ m)
  | [], _, _, y => y
  | _ :: l, m, x, y => (x.1, DL.app l m x.2 y)
theorem DL.app_enc : ∀ (l m : List CT) (x : DL l) (y : DL m), DL.enc (l ++ m) (DL.app l m x y) = DL.enc l x ++ DL.enc m y
  | [], _, _, _ => rfl
  | a :: l, m, x, y => by
    show CT.enc a x.1 :: DL.enc (l ++ m) (DL.app l m x.2 y) = CT.enc a x.1 :: (DL.enc l x.2 ++ DL.enc m y)
    rw [DL.app_enc l m x.2 y]
theorem DL.app_encF : ∀ (l m : List CT) (x : DL l) (y : DL m), DL.encF (l ++ m) (DL.app l m x y) = DL.encF l x ++ DL.encF m y
  | [], _, _, _ => rfl
  | a :: l, m, x, y => by
    show (CT.dv .frz a x.1).enc :: DL.encF (l ++ m) (DL.app l m x.2 y) = (CT.dv .frz a x.1).enc :: (DL.encF l x.2 ++ DL.encF m y)
    rw [DL.app_encF l m x.2 y]
theorem DL.app_wf : ∀ (l m : List CT) (x : DL l) (y : DL m), DL.wf l x → DL.wf m y → DL.wf (l ++ m) (DL.app l m x y)
  | [], _, _, _, _, h => h
  | _ :: l, m, x, y, h, h' => ⟨h.1, DL.app_wf l m x.2 y h.2 h'⟩
theorem DL.len : ∀ (l : List CT) (x : DL l), (DL.enc l x).length = l.length
  | [], _ => rfl
  | _ :: l, x => by show _ + 1 = _ + 1; rw [DL.len l x.2]
theorem DL.lenF : ∀ (l : List CT) (x : DL l), (DL.encF l x).length = l.length
  | [], _ => rfl
  | _ :: l, x => by show _ + 1 = _ + 1; rw [DL.lenF l x.2]
def DL.rt : (l : List CT) → DL l → (rtOf l).D
  | [], _ => false
  | [_], x => x.1
  | _ :: b :: r, x => (x.1, DL.rt (b :: r) x.2)
theorem DL.rt_enc : ∀ (l : List CT) (x : DL l), l ≠ [] → RT.enc (rtOf l) (DL.rt l x) = DL.enc l x
  | [], _, h => absurd rfl h
  | [_], _, _ => rfl
  | a :: b :: r, x, _ => by
    show CT.enc a x.1 :: RT.enc (rtOf (b :: r)) (DL.rt (b :: r) x.2) = CT.enc a x.1 :: DL.enc (b :: r) x.2
    rw [DL.rt_enc (b :: r) x.2 (by simp)]
theorem DL.rt_wf : ∀ (l : List CT) (x : DL l), l ≠ [] → DL.wf l x → RT.wf (rtOf l) (DL.rt l x)
  | [], _, h, _ => absurd rfl h
  | [_], _, _, h => h.1
  | a :: b :: r, x, _, h => ⟨h.1, DL.rt_wf (b :: r) x.2 (by simp) h.2⟩
def DL.ag : (l : List CT) → DL l → AgX (l.map fun t => (Ql.frz, t))
  | [], _ => ()
  | [_], x => x.1
  | _ :: b :: r, x => (x.1, DL.ag (b :: r) x.2)
theorem DL.ag_enc : ∀ (l : List CT) (x : DL l), DV.encL (agDv (l.map fun t => (Ql.frz, t)) (DL.ag l x)) = DL.encF l x
  | [], _ => rfl
  | [_], _ => rfl
  | a :: b :: r, x => by
    show (CT.dv .frz a x.1).enc :: DV.encL (agDv ((b :: r).map fun t => (Ql.frz, t)) (DL.ag (b :: r) x.2)) = (CT.dv .frz a x.1).enc :: DL.encF (b :: r) x.2
    rw [DL.ag_enc (b :: r) x.2]
theorem DL.ag_wf : ∀ (l : List CT) (x : DL l), DL.wf l x → AgX.wf (l.map fun t => (Ql.frz, t)) (DL.ag l x)
  | [], _, _ => trivial
  | [_], _, h => h.1
  | a :: b :: r, x, h => ⟨h.1, DL.ag_wf (b :: r) x.2 h.2⟩
theorem cts_len : ∀ (t : Ty), t.cts.length = t.w
  | .int _ | .bool | .str | .sl _ | .unit => rfl
  | .pair a b => by simp only [Ty.cts, Ty.w, List.length_append, cts_len a, cts_len b]
def ωro (σ : Heap) : Nat → W := fun l => if l < σ.length then .frz else .none
theorem ωro_frz {σ : Heap} {l : Nat} {b : Blk} (h : σ[l]? = some b) : ωro σ l = .frz := by
  unfold ωro; rw [if_pos (get_len h)]
theorem pget_app_left : ∀ (a b : List PV) (i : Nat), i < a.length → pget (a ++ b) i = pget a i
  | [], _, _, h => by cases h
  | _ :: _, _, 0, _ => rfl
  | _ :: a, b, i + 1, h => pget_app_left a b i (by simpa using h)
theorem pget_app_right : ∀ (a b : List PV) (i : Nat), pget (a ++ b) (a.length + i) = pget b i
  | [], _, _ => by simp
  | _ :: a, b, i => by
    have := pget_app_right a b i
    simp only [List.cons_append, List.length_cons, Nat.add_right_comm]
    exact this
theorem get_app_left : ∀ (a b : List V) (i : Nat), i < a.length → get (a ++ b) i = get a i
  | [], _, _, h => by cases h
  | _ :: _, _, 0, _ => rfl
  | _ :: a, b, i + 1, h => get_app_left a b i (by simpa using h)
theorem get_app_right : ∀ (a b : List V) (i : Nat), get (a ++ b) (a.length + i) = get b i
  | [], _, _ => by simp
  | _ :: a, b, i => by
    have := get_app_right a b i
    simp only [List.cons_append, List.length_cons, Nat.add_right_comm]
    exact this
theorem get_drop_take : ∀ (l : List V) (o n i : Nat), i < n → get ((l.drop o).take n) i = get l (o + i)
  | [], o, n, i, _ => by simp [get]
  | c :: r, 0, 0, i, h => by cases h
  | c :: r, 0, n + 1, 0, _ => rfl
  | c :: r, 0, n + 1, i + 1, h => by
    have := get_drop_take r 0 n i (by omega)
    simp only [Nat.zero_add] at this
    simp only [List.drop_zero, List.take_succ_cons, get, Nat.zero_add]
    simpa using this
  | c :: r, o + 1, n, i, h => by
    have := get_drop_take r o n i h
    rw [List.drop_succ_cons, this, Nat.add_right_comm]
    rfl
theorem pget_flat {w : Nat} : ∀ (es : List (List PV)) (i j : Nat), (∀ e ∈ es, e.length = w) → j < w → i < es.length → pget es.flatten (i * w + j) = pget (elt es i) j
  | [], i, _, _, _, h => by cases h
  | e :: r, 0, j, hw, hj, _ => by
    have he := hw e (List.mem_cons_self ..)
    rw [Nat.zero_mul, Nat.zero_add, List.flatten_cons, pget_app_left _ _ _ (by omega)]
    rfl
  | e :: r, i + 1, j, hw, hj, h => by
    have he := hw e (List.mem_cons_self ..)
    rw [List.flatten_cons, show (i + 1) * w + j = e.length + (i * w + j) by rw [he, Nat.succ_mul]; omega, pget_app_right]
    exact pget_flat r i j (fun e h => hw e (List.mem_cons_of_mem _ h)) hj (by simpa using h)
theorem elt_map' {α : Type} (f : α → List PV) : ∀ (l : List α) (i : Nat) (h : i < l.length), elt (l.map f) i = f l[i]
  | [], _, h => by cases h
  | _ :: _, 0, _ => rfl
  | _ :: l, i + 1, h => elt_map' f l i (by simpa using h)
theorem sh_data {σ : Heap} : ∀ (ty : Ty) {cs : List V}, ty.good = true → Sh σ ty cs → ∃ x : DL ty.cts, DL.wf ty.cts x ∧
    (∀ i, RC σ (ωro σ) .fz (pget (DL.enc ty.cts x) i) (get cs i)) ∧ ∀ i hd p, RC σ (ωro σ) (.at hd p) (pget (DL.encF ty.cts x) i) (get cs i)
  | .int k, cs, _, ⟨n, h, hw⟩ => by
    subst h
    exact ⟨(n, ()), ⟨hw, trivial⟩, fun i => by cases i <;> first | exact .v _ _ rfl | exact .undef _ _, fun i hd p => by cases i <;> first | exact .v _ _ rfl | exact .undef _ _⟩
  | .bool, cs, _, ⟨b, h⟩ => by
    subst h
    exact ⟨(b, ()), ⟨trivial, trivial⟩, fun i => by cases i <;> first | exact .v _ _ rfl | exact .undef _ _, fun i hd p => by cases i <;> first | exact .v _ _ rfl | exact .undef _ _⟩
  | .str, cs, _, ⟨s, h, hl⟩ => by
    subst h
    exact ⟨(s, ()), ⟨hl, trivial⟩, fun i => by cases i <;> first | exact .v _ _ rfl | exact .undef _ _, fun i hd p => by cases i <;> first | exact .v _ _ rfl | exact .undef _ _⟩
  | .unit, cs, _, h => by
    have h : cs = [] := h
    subst h
    exact ⟨(), trivial, fun i => .undef _ _, fun i hd p => .undef _ _⟩
  | .pair a b, cs, hg, ⟨xs, ys, h, h1, h2⟩ => by
    simp only [Ty.good, Bool.and_eq_true] at hg
    obtain ⟨x, x1, x2, x3⟩ := sh_data a hg.1 h1
    obtain ⟨y, y1, y2, y3⟩ := sh_data b hg.2 h2
    have hl := h1.len
    subst h
    refine ⟨DL.app _ _ x y, DL.app_wf _ _ x y x1 y1, fun i => ?_, fun i hd p => ?_⟩
    · simp only [Ty.cts]
      rw [DL.app_enc]
      by_cases hi : i < a.w
      · rw [pget_app_left _ _ _ (by rw [DL.len, cts_len]; exact hi), get_app_left _ _ _ (by rw [hl]; exact hi)]
        exact x2 i
      · obtain ⟨j, rfl⟩ := Nat.exists_eq_add_of_le (Nat.le_of_not_lt hi)
        have e1 := pget_app_right (DL.enc a.cts x) (DL.enc b.cts y) j
        have e2 := get_app_right xs ys j
        rw [DL.len, cts_len] at e1
        rw [hl] at e2
        rw [e1, e2]
        exact y2 j
    · simp only [Ty.cts]
      rw [DL.app_encF]
      by_cases hi : i < a.w
      · rw [pget_app_left _ _ _ (by rw [DL.lenF, cts_len]; exact hi), get_app_left _ _ _ (by rw [hl]; exact hi)]
        exact x3 i hd p
      · obtain ⟨j, rfl⟩ := Nat.exists_eq_add_of_le (Nat.le_of_not_lt hi)
        have e1 := pget_app_right (DL.encF a.cts x) (DL.encF b.cts y) j
        have e2 := get_app_right xs ys j
        rw [DL.lenF, cts_len] at e1
        rw [hl] at e2
        rw [e1, e2]
        exact y3 j hd p
  | .sl t, cs, hg, h => by
    simp only [Ty.good, Bool.and_eq_true] at hg
    have hw0 : 0 < t.w := Nat.le_of_ble_eq_true hg.1
    have hne : t.cts ≠ [] := by intro e; have := cts_len t; rw [e] at this; simp only [List.length_nil] at this; omega
    rcases h with h | ⟨l, n, bs, h, hb, hbl, hn, he⟩
    · subst h
      refine ⟨(([] : List (rtOf t.cts).D), ()), ⟨⟨Nat.zero_le _, fun x hx => by cases hx⟩, trivial⟩, fun i => ?_, fun i hd p => ?_⟩
      · cases i <;> first | exact .nil _ _ | exact .undef _ _
      · cases i <;> first | exact .nil _ _ | exact .undef _ _
    · subst h
      have ex : ∀ i, ∃ x : DL t.cts, i < n → DL.wf t.cts x ∧ (∀ k, RC σ (ωro σ) .fz (pget (DL.enc t.cts x) k) (get ((bs.drop (i * t.w)).take t.w) k)) := by
        intro i
        by_cases hi : i < n
        · obtain ⟨x, h1, h2, _⟩ := sh_data t hg.2 (he i hi)
          exact ⟨x, fun _ => ⟨h1, h2⟩⟩
        · have h0 : ∀ l : List CT, Nonempty (DL l) := by
            intro l
            induction l with
            | nil => exact ⟨()⟩
            | cons a r ih => obtain ⟨y⟩ := ih; exact ⟨(a.dflt, y)⟩
          obtain ⟨y⟩ := h0 t.cts
          exact ⟨y, fun h => absurd h hi⟩
      let f : Nat → DL t.cts := fun i => Classical.choose (ex i)
      have hf : ∀ i, i < n → DL.wf t.cts (f i) ∧ ∀ k, RC σ (ωro σ) .fz (pget (DL.enc t.cts (f i)) k) (get ((bs.drop (i * t.w)).take t.w) k) := fun i hi => Classical.choose_spec (ex i) hi
      let L : List (rtOf t.cts).D := (List.range n).map fun i => DL.rt t.cts (f i)
      have hL : L.length = n := by simp [L]
      have hLw : ∀ e ∈ L.map (RT.enc (rtOf t.cts)), e.length = t.w := by
        intro e he
        obtain ⟨y, hy, rfl⟩ := List.mem_map.mp he
        obtain ⟨i, _, rfl⟩ := List.mem_map.mp hy
        rw [DL.rt_enc _ _ hne, DL.len, cts_len]
      have hcell : ∀ k, k < L.length * t.w → RC σ (ωro σ) .fz (pget (L.map (RT.enc (rtOf t.cts))).flatten k) (get bs (0 + k)) := by
        intro k hk
        have hdm : k / t.w * t.w + k % t.w = k := by rw [Nat.mul_comm]; exact Nat.div_add_mod k t.w
        have hmod := Nat.mod_lt k hw0
        have hdiv : k / t.w < n := by rw [hL] at hk; exact (Nat.div_lt_iff_lt_mul hw0).2 hk
        have e1 := pget_flat (L.map (RT.enc (rtOf t.cts))) (k / t.w) (k % t.w) hLw hmod (by rw [List.length_map, hL]; exact hdiv)
        rw [hdm] at e1
        rw [e1, elt_map' _ _ _ (by rw [hL]; exact hdiv), Nat.zero_add]
        have e2 := get_drop_take bs (k / t.w * t.w) t.w (k % t.w) hmod
        rw [hdm] at e2
        have e3 : L[k / t.w]'(by rw [hL]; exact hdiv) = DL.rt t.cts (f (k / t.w)) := by simp [L]
        rw [e3, DL.rt_enc _ _ hne, ← e2]
        exact (hf _ hdiv).2 _
      have hwf : ∀ x ∈ L, RT.wf (rtOf t.cts) x := by
        intro x hx
        obtain ⟨i, hi, rfl⟩ := List.mem_map.mp hx
        exact DL.rt_wf _ _ hne (hf i (List.mem_range.mp hi)).1
      have hle : 0 + (L.map (RT.enc (rtOf t.cts))).length * t.w ≤ bs.length := by rw [List.length_map, hL, hbl]; omega
      refine ⟨(L, ()), ⟨⟨by rw [hL]; exact hn, hwf⟩, trivial⟩, fun i => ?_, fun i hd p => ?_⟩
      · cases i with
        | succ i => exact .undef _ _
        | zero => exact .sl _ _ _ _ _ _ _ hb (by simp) (ωro_frz hb) (fun e => by cases e) (by rw [List.length_map, hL]) hLw hle fun k hk => hcell k (by rw [List.length_map] at hk; exact hk)
      · cases i with
        | succ i => exact .undef _ _
        | zero => exact .sl _ _ _ _ _ _ _ hb (by simp) (ωro_frz hb) (fun _ e => by rcases e with e | ⟨_, _, e⟩ <;> cases e) (by rw [List.length_map, hL]) hLw hle fun k hk => hcell k (by rw [List.length_map] at hk; exact hk)
structure ArgD (σ : Heap) (v : PV) (u : V) : Prop where
  rc : ∀ hd p c, RC σ (ωro σ) (.at hd p) (v.fcell c) (u.fcell c)
  sh : Shp v u
  nx : ∀ c i pb tp, (v.fcell c).q ≠ some (.bor (.x i) pb tp)
theorem cell_sc {v : V} (h : v.cell = true) : (∀ us, v ≠ .agg us) ∧ ∀ us, v ≠ .tup us := by
  constructor <;> rintro us rfl <;> cases h
theorem frz_q : ∀ (l : List CT) (x : DL l) (i : Nat) (a : Hd) (pb : List Nat) (tp : Bool), (pget (DL.encF l x) i).q ≠ some (.bor a pb tp)
  | [], _, _, _, _, _ => by simp [DL.encF, pget, PV.q]
  | c :: r, x, 0, a, pb, tp => by cases c <;> simp [DL.encF, pget, CT.dv, DV.enc, PV.q]
  | _ :: r, x, i + 1, a, pb, tp => frz_q r x.2 i a pb tp
theorem arg_data {σ : Heap} {a : Ty × Bool} {u : V} (hg : argGood a = true) (h : ArgOk σ a u) : ∃ x : (htOf a).D, (htOf a).wf x ∧ ArgD σ ((htOf a).dv x).enc u := by
  obtain ⟨ty, b⟩ := a
  cases b with
  | true =>
    obtain ⟨cs, rfl, hs, hc⟩ := h
    obtain ⟨x, h1, _, h3⟩ := sh_data ty hg hs
    have hle := hs.len
    refine ⟨DL.ag ty.cts x, DL.ag_wf _ _ h1, ?_⟩
    have he : ((htOf (ty, true)).dv (DL.ag ty.cts x)).enc = .agg (DL.encF ty.cts x) := by
      show PV.agg _ = PV.agg _
      rw [DL.ag_enc]
    rw [he]
    refine ⟨fun hd p c => ?_, ⟨cs, rfl, by rw [hle, DL.lenF, cts_len]⟩, fun c i pb tp => ?_⟩
    · match c with
      | [] => exact .undef _ _
      | [c] => exact h3 c hd p
      | _ :: _ :: _ => exact .undef _ _
    · match c with
      | [] => simp [PV.fcell, PV.q]
      | [c] => exact frz_q _ _ _ _ _ _
      | _ :: _ :: _ => simp [PV.fcell, PV.q]
  | false =>
    obtain ⟨hs, hc⟩ := h
    simp only [argGood, Bool.and_eq_true, beq_iff_eq] at hg
    obtain ⟨x, h1, _, h3⟩ := sh_data ty hg.1 hs
    have key : ∀ (l : List CT) (x : DL l), l.length = 1 → DL.wf l x → (∀ i hd p, RC σ (ωro σ) (.at hd p) (pget (DL.encF l x) i) (get [u] i)) →
        ∃ y : (match l with | [c] => HT.one .frz c | _ => HT.agg []).D, (match l with | [c] => HT.one .frz c | _ => HT.agg []).wf y ∧ ArgD σ ((match l with | [c] => HT.one .frz c | _ => HT.agg []).dv y).enc u := by
      intro l x hl hwf h3
      match l, x, hl, hwf, h3 with
      | [c], x, _, hwf, h3 =>
        have hsc := cell_sc hc
        have hnf : ∀ p, p ≠ [0] → ((CT.dv .frz c x.1).enc).fcell p = .fl .undef := by
          intro p hp
          cases c <;> (match p with | [] => rfl | [0] => exact absurd rfl hp | (_ + 1) :: _ => rfl | 0 :: _ :: _ => rfl)
        have hf0 : ((CT.dv .frz c x.1).enc).fcell [0] = (CT.dv .frz c x.1).enc := by cases c <;> rfl
        have hu0 : u.fcell [0] = u := by cases u <;> first | rfl | exact absurd rfl (hsc.1 _) | exact absurd rfl (hsc.2 _)
        refine ⟨x.1, hwf.1, ⟨fun hd p q => ?_, ?_, fun q i pb tp => ?_⟩⟩
        · by_cases hq : q = [0]
          · subst hq
            show RC σ (ωro σ) (.at hd p) (((CT.dv .frz c x.1).enc).fcell [0]) (u.fcell [0])
            rw [hf0, hu0]; exact h3 0 hd p
          · show RC σ (ωro σ) (.at hd p) (((CT.dv .frz c x.1).enc).fcell q) (u.fcell q)
            rw [hnf q hq]; exact .undef _ _
        · show Shp ((CT.dv .frz c x.1).enc) u
          cases c <;> exact hsc
        · show (((CT.dv .frz c x.1).enc).fcell q).q ≠ _
          by_cases hq : q = [0]
          · subst hq
            rw [hf0]; exact frz_q [c] x 0 _ _ _
          · rw [hnf q hq]; simp [PV.q]
    exact key ty.cts x hg.2 h1 h3
theorem args_data {σ : Heap} : ∀ {tys : List (Ty × Bool)} {us : List V}, tys.all argGood = true → ArgsOk σ tys us → ∃ x : TuX (tys.map htOf), TuX.wf _ x ∧ us.length = tys.length ∧
    ∀ t, ArgD σ (pget (DV.encL (tuDv (tys.map htOf) x)) t) (get us t)
  | [], [], _, _ => ⟨(), trivial, rfl, fun t => ⟨fun hd p c => by
      have : (PV.fl V.undef).fcell c = .fl .undef := by match c with | [] => rfl | [0] => rfl | (_ + 1) :: _ => rfl | 0 :: _ :: _ => rfl
      show RC σ (ωro σ) (.at hd p) ((PV.fl V.undef).fcell c) _
      rw [this]; exact .undef _ _, trivial, fun c i pb tp => by
      have : (PV.fl V.undef).fcell c = .fl .undef := by match c with | [] => rfl | [0] => rfl | (_ + 1) :: _ => rfl | 0 :: _ :: _ => rfl
      show ((PV.fl V.undef).fcell c).q ≠ _
      rw [this]; simp [PV.q]⟩⟩
  | [a], [u], hg, h => by
    simp only [List.all_cons, List.all_nil, Bool.and_true] at hg
    obtain ⟨x, h1, h2⟩ := arg_data hg h.1
    obtain ⟨_, _, _, h4⟩ := args_data (σ := σ) (tys := []) (us := []) rfl trivial
    refine ⟨x, h1, rfl, fun t => ?_⟩
    cases t with
    | zero => exact h2
    | succ t => exact h4 t
  | a :: b :: r, u :: us, hg, h => by
    rw [List.all_cons, Bool.and_eq_true] at hg
    obtain ⟨x, h1, h2⟩ := arg_data hg.1 h.1
    obtain ⟨y, h3, h4, h5⟩ := args_data (tys := b :: r) (us := us) hg.2 h.2
    refine ⟨(x, y), ⟨h1, h3⟩, by simp [h4], fun t => ?_⟩
    cases t with
    | zero => exact h2
    | succ t => exact h5 t
  | [_], _ :: _ :: _, _, h => h.2.elim
  | [_], [], _, h => h.elim
  | _ :: _ :: _, [], _, h => h.elim
  | [], _ :: _, _, h => h.elim
theorem entry {σ : Heap} {as : List PV} {us : List V} (hl : as.length = us.length) (h : ∀ t, ArgD σ (pget as t) (get us t)) : RS σ (ωro σ) (ωro σ) (fun _ => 0) ⟨as, [], []⟩ ⟨us, [], σ⟩ X0 := by
  have no : ∀ l hd p, ωro σ l ≠ .own hd p := by intro l hd p e; unfold ωro at e; split at e <;> cases e
  have nop : ∀ l i, ωro σ l ≠ .ptr i := by intro l i e; unfold ωro at e; split at e <;> cases e
  have hund : ∀ c, (PV.fl V.undef).fcell c = .fl .undef := by
    intro c; match c with | [] => rfl | [0] => rfl | (_ + 1) :: _ => rfl | 0 :: _ :: _ => rfl
  have cat : ∀ (c : List Nat) (l : List V), (cellAt [] l c).1 = .fl .undef := by
    intro c l; match c with | [] => rfl | [_] => rfl | _ :: _ :: _ => rfl
  refine ⟨⟨fun hd p => ?_, fun l l' hd p e => absurd e (no l hd p), fun l l' i e => absurd e (nop l i), fun l e => ?_, fun l e => ?_⟩, fun t => (h t).sh, fun i => trivial, hl, rfl, fun i => rfl, fun i c => rfl, fun i c => rfl, fun i hi => (by cases hi), fun l i e => absurd e (nop l i), fun l i p e => absurd e (no l _ p), ⟨Nat.le_refl _, fun l _ _ => ⟨rfl, rfl⟩, fun l hlt e => (by rw [e]; simp), fun l i e => e⟩, fun hd p i pb tp => ?_⟩
  · cases hd with
    | s t => exact (h t).rc _ _ _
    | b i => show RC σ (ωro σ) _ (cellAt [] (getB [] i) p).1 _; rw [cat]; exact .undef _ _
    | h i => show RC σ (ωro σ) _ (cellAt [] _ p).1 _; rw [cat]; exact .undef _ _
    | x i => show RC σ (ωro σ) _ ((PV.fl V.undef).fcell p) _; rw [hund]; exact .undef _ _
  · rcases e with ⟨hd, p, e⟩ | ⟨i, e⟩
    · exact absurd e (no l hd p)
    · exact absurd e (nop l i)
  · unfold ωro at e; split at e
    · assumption
    · cases e
  · cases hd with
    | s t => exact (h t).nx p i pb tp
    | b j => show (cellAt [] (getB [] j) p).1.q ≠ _; rw [cat]; simp [PV.q]
    | h j => show (cellAt [] _ p).1.q ≠ _; rw [cat]; simp [PV.q]
    | x j => show ((PV.fl V.undef).fcell p).q ≠ _; rw [hund]; simp [PV.q]
theorem law_of {f : DFun} {tys : List (Ty × Bool)} {hs : List HT} {s : CallSem} (hsp : SoundP s (pfunSem f.er)) (hhs : tys.map htOf = hs) (hg : tys.all argGood = true) (ho : AllD f.body.obs)
    (hst : fnSt f hs (.one (.one .own .bool)) = true) (hc : ∀ x, fnChk f hs (.one (.one .own .bool)) x = true)
    (law : ∀ x : TuX hs, TuX.wf hs x → fnOk f hs (.one (.one .own .bool)) x ∧ fnV f hs (.one (.one .own .bool)) x = true) (σ : Heap) (us : List V) (hro : AllRo σ) (ha : ArgsOk σ tys us) : s us σ fun r _ => r = .bool true := by
  subst hhs
  obtain ⟨x, h1, h2, h3⟩ := args_data hg ha
  obtain ⟨l1, l2⟩ := law x h1
  have hlen : (DV.encL (tuDv (tys.map htOf) x)).length = us.length := by rw [encL_len, tuDv_len, List.length_map, h2]
  refine hsp σ (ωro σ) (fun _ => 0) _ us [] (fun r _ => r = .fl (.bool true)) _ (entry hlen h3) (fun l hd p e => ?_) ?_ fun u h' r H' ω' ρ' hQ R' _ => ?_
  · exfalso; unfold ωro at e; split at e <;> cases e
  · refine fn_sound ho hst x (hc x) l1 fun H => ?_
    rw [l2]
    rfl
  · subst hQ
    have r := R'.core.rc (.x 0) [0]
    have hs := R'.shx 0
    have r : RC h' ω' (.at (.x 0) [0]) (.fl (.bool true)) (u.fcell [0]) := r
    have hu : u.fcell [0] = u := by
      have hs : Shp (.fl (.bool true)) u := hs
      cases u <;> first | rfl | exact absurd rfl (hs.1 _) | exact absurd rfl (hs.2 _)
    rw [hu] at r
    cases r
    rfl
theorem bNot_eq (a : Bool) : bNot a = !a := by unfold bNot; rfl
theorem bAnd_eq (a b : Bool) : bAnd a b = (a && b) := by unfold bAnd; rfl
theorem bOr_eq (a b : Bool) : bOr a b = (a || b) := by unfold bOr; rfl
theorem bIff_eq (a b : Bool) : bIff a b = (a == b) := by unfold bIff; rfl
theorem bSel_eq {α : Type} (c : Bool) (x y : α) : bSel c x y = if c = true then x else y := by cases c <;> simp [bSel_t, bSel_f]
theorem iNe_eq (a b : Int) : iNe a b = !decide (a = b) := by
  unfold iNe; by_cases h : a = b <;> simp [h]
theorem iLt_eq (a b : Int) : iLt a b = decide (a < b) := by unfold iLt; rfl
section
variable {α : Type}
theorem lLen_eq (l : List α) : lLen l = (l.length : Int) := by unfold lLen; rfl
theorem lGet_eq (l : List α) (j : Nat) (d : α) : lGet l j d = l.getD j d := by unfold lGet; rfl
theorem lSet_eq (l : List α) (j : Nat) (x : α) : lSet l j x = l.set j x := by unfold lSet; rfl
theorem lRep_eq (n : Int) (x : α) : lRep n x = List.replicate n.toNat x := by unfold lRep; rfl
theorem iNat_eq (a : Int) : iNat a = a.toNat := by unfold iNat; rfl
end
def In64 (n : Int) : Prop := -9223372036854775808 ≤ n ∧ n ≤ 9223372036854775807
theorem wrap_i64 {n : Int} (h : In64 n) : IntKind.i64.wrap n = n := by
  obtain ⟨h1, h2⟩ := h
  show (if decide (n % 18446744073709551616 ≥ 9223372036854775808) = true then n % 18446744073709551616 - 18446744073709551616 else n % 18446744073709551616) = n
  simp only [decide_eq_true_eq]
  split <;> omega
theorem iAdd_i64 {a b : Int} (h : In64 (a + b)) : iAdd .i64 a b = a + b := by unfold iAdd; exact wrap_i64 h
theorem iSub_i64 {a b : Int} (h : In64 (a - b)) : iSub .i64 a b = a - b := by unfold iSub; exact wrap_i64 h
section
variable {X : Type} {c : X → Bool} {f : X → X} {p : X → Prop}
theorem loop_inv (I : X → Prop) (m : X → Nat) (h : ∀ x, I x → p x ∧ (c x = true → I (f x) ∧ m (f x) < m x)) {x0 : X} (h0 : I x0) :
    LoopOk c f p x0 ∧ I (loopV c f x0) ∧ c (loopV c f x0) = false := by
  have go : ∀ (n : Nat) (x : X), m x < n → I x → ∃ y, LoopTo c f p x y ∧ I y ∧ c y = false := by
    intro n
    induction n with
    | zero => intro x hm; exact absurd hm (Nat.not_lt_zero _)
    | succ n ih =>
      intro x hm hI
      obtain ⟨h1, h2⟩ := h x hI
      cases hc : c x with
      | false => exact ⟨x, .stop h1 hc, hI, hc⟩
      | true =>
        obtain ⟨h3, h4⟩ := h2 hc
        obtain ⟨y, h5, h6, h7⟩ := ih (f x) (by omega) h3
        exact ⟨y, .go h1 hc h5, h6, h7⟩
  obtain ⟨y, h1, h2, h3⟩ := go _ x0 (Nat.lt_succ_self _) h0
  rw [h1.val]
  exact ⟨⟨y, h1⟩, h2, h3⟩
theorem loop_for (n : Nat) (st : Nat → X) {x0 : X} (h0 : st 0 = x0) (hs : ∀ k, k < n → p (st k) ∧ c (st k) = true ∧ f (st k) = st (k + 1)) (he : p (st n) ∧ c (st n) = false) : LoopOk c f p x0 ∧ loopV c f x0 = st n := by
  have go : ∀ k, k ≤ n → LoopTo c f p (st (n - k)) (st n) := by
    intro k
    induction k with
    | zero => intro _; exact .stop he.1 he.2
    | succ k ih =>
      intro hk
      obtain ⟨h1, h2, h3⟩ := hs (n - (k + 1)) (by omega)
      refine .go h1 h2 ?_
      rw [h3, show n - (k + 1) + 1 = n - k by omega]
      exact ih (by omega)
  have := go n (Nat.le_refl _)
  rw [Nat.sub_self, h0] at this
  exact ⟨⟨_, this⟩, this.val⟩
end
def firstAt (t : Nat → Bool) : Nat → Nat → Nat
  | 0, i => i
  | k + 1, i => if t i then i else firstAt t k (i + 1)
theorem firstAt_le (t : Nat → Bool) : ∀ k i, i ≤ firstAt t k i ∧ firstAt t k i ≤ i + k
  | 0, i => ⟨Nat.le_refl _, Nat.le_refl _⟩
  | k + 1, i => by
    unfold firstAt
    split
    · omega
    · have := firstAt_le t k (i + 1); omega
theorem firstAt_lt (t : Nat → Bool) : ∀ k i, firstAt t k i < i + k → t (firstAt t k i) = true
  | 0, i, h => by unfold firstAt at h; omega
  | k + 1, i, h => by
    unfold firstAt at h ⊢
    split
    · rename_i ht; exact ht
    · rename_i ht
      rw [if_neg ht] at h
      exact firstAt_lt t k (i + 1) (by omega)
theorem firstAt_no (t : Nat → Bool) : ∀ k i j, i ≤ j → j < firstAt t k i → t j = false
  | 0, i, j, h, h' => by unfold firstAt at h'; omega
  | k + 1, i, j, h, h' => by
    unfold firstAt at h'
    split at h'
    · omega
    · rename_i ht
      by_cases hj : j = i
      · subst hj; simpa using ht
      · exact firstAt_no t k (i + 1) j (by omega) h'
theorem scan_loop {c : Int → Bool} {f : Int → Int} {p : Int → Prop} (n : Nat) (t : Nat → Bool) (hn : (n : Int) ≤ 9223372036854775806) (hc : ∀ i : Nat, i ≤ n → c i = (decide (i < n) && !t i)) (hf : ∀ i : Nat, i < n → f i = iAdd .i64 i 1) (hp : ∀ i : Nat, i ≤ n → p i) :
    LoopOk c f p 0 ∧ loopV c f 0 = (firstAt t n 0 : Nat) := by
  have hle := firstAt_le t n 0
  refine loop_for (firstAt t n 0) (fun k => (k : Int)) rfl (fun k hk => ?_) ⟨hp _ (by omega), ?_⟩
  · have hk' : k < n := by omega
    refine ⟨hp k (by omega), ?_, ?_⟩
    · rw [hc k (by omega), firstAt_no t n 0 k (by omega) hk]; simp [hk']
    · rw [hf k hk', iAdd_i64 (by unfold In64; omega)]; omega
  · rw [hc _ (by omega)]
    by_cases h : firstAt t n 0 < n
    · rw [firstAt_lt t n 0 (by omega)]; simp
    · simp [h]
theorem firstAt_all {t : Nat → Bool} {n : Nat} : firstAt t n 0 = n ↔ ∀ i, i < n → t i = false := by
  constructor
  · intro h i hi; exact firstAt_no t n 0 i (by omega) (by omega)
  · intro h
    have hle := firstAt_le t n 0
    rcases Nat.lt_or_ge (firstAt t n 0) n with h1 | h1
    · have := firstAt_lt t n 0 (by omega); rw [h _ h1] at this; cases this
    · omega
section
variable {α : Type}
theorem set_take (x : List α) (k : Nat) (hk : k < x.length) (d : α) (l : List α) (hl : l.length = x.length) (h : l.take k = x.take k) : (l.set k (x.getD k d)).take (k + 1) = x.take (k + 1) := by
  rw [List.take_add_one, List.take_add_one, List.take_set]
  have : (l.take k).set k (x.getD k d) = l.take k := by
    apply List.set_eq_of_length_le; rw [List.length_take]; exact Nat.min_le_left _ _
  rw [this, h]
  congr 1
  rw [List.getElem?_set_self (by omega), List.getD_eq_getElem?_getD, List.getElem?_eq_getElem hk]
  simp
end
theorem eq_loop {α : Type} {c : Int → Bool} {f : Int → Int} {p : Int → Prop} (a b : List α) (d : α) (ne : Nat → Bool) (hl : a.length = b.length) (hne : ∀ i, i < a.length → (ne i = false ↔ a.getD i d = b.getD i d)) (hn : (a.length : Int) ≤ 9223372036854775806) (hc : ∀ i : Nat, i ≤ a.length → c i = (decide (i < a.length) && !ne i)) (hf : ∀ i : Nat, i < a.length → f i = iAdd .i64 i 1) (hp : ∀ i : Nat, i ≤ a.length → p i) :
    LoopOk c f p 0 ∧ (loopV c f 0 < (a.length : Int) ↔ a ≠ b) := by
  obtain ⟨h1, h2⟩ := scan_loop a.length ne hn hc hf hp
  refine ⟨h1, ?_⟩
  rw [h2]
  have hle := firstAt_le ne a.length 0
  constructor
  · intro h hab
    subst hab
    have := firstAt_lt ne a.length 0 (by omega)
    rw [(hne _ (by omega)).2 rfl] at this; cases this
  · intro h
    rcases Nat.lt_or_ge (firstAt ne a.length 0) a.length with h3 | h3
    · omega
    · exfalso; apply h
      have h4 : firstAt ne a.length 0 = a.length := by omega
      rw [firstAt_all] at h4
      refine List.ext_getElem hl fun i hi hi' => ?_
      have := (hne i hi).1 (h4 i hi)
      rw [List.getD_eq_getElem?_getD, List.getD_eq_getElem?_getD, List.getElem?_eq_getElem hi, List.getElem?_eq_getElem hi'] at this
      simpa using this
theorem eq_ok {α : Type} {c : Int → Bool} {f : Int → Int} {p : Int → Prop} (a b : List α) (d : α) (ne : Nat → Bool) (hl : a.length = b.length) (hne : ∀ i, i < a.length → (ne i = false ↔ a.getD i d = b.getD i d)) (hn : (a.length : Int) ≤ 9223372036854775806) (hc : ∀ i : Nat, i ≤ a.length → c i = (decide (i < a.length) && !ne i)) (hf : ∀ i : Nat, i < a.length → f i = iAdd .i64 i 1) (hp : ∀ i : Nat, i ≤ a.length → p i) : LoopOk c f p 0 := (eq_loop a b d ne hl hne hn hc hf hp).1
theorem eq_v {α : Type} {c : Int → Bool} {f : Int → Int} (a b : List α) (d : α) (ne : Nat → Bool) (hl : a.length = b.length) (hne : ∀ i, i < a.length → (ne i = false ↔ a.getD i d = b.getD i d)) (hn : (a.length : Int) ≤ 9223372036854775806) (hc : ∀ i : Nat, i ≤ a.length → c i = (decide (i < a.length) && !ne i)) (hf : ∀ i : Nat, i < a.length → f i = iAdd .i64 i 1) : loopV c f 0 < (a.length : Int) ↔ a ≠ b := (eq_loop (p := fun _ => True) a b d ne hl hne hn hc hf (fun _ _ => trivial)).2
theorem copyg_loop {α : Type} {c : List α × Int → Bool} {f : List α × Int → List α × Int} {p : List α × Int → Prop} (x : List α) (z d : α) (hn : x.length ≤ 1048576)
    (hc : ∀ st, c st = iLt st.2 (lLen x)) (hf : ∀ (l : List α) (i : Nat), i < x.length → f (l, (i : Int)) = (l.set i (x.getD i d), iAdd .i64 i 1))
    (hp : ∀ (l : List α) (i : Nat), l.length = x.length → i ≤ x.length → p (l, i)) :
    LoopOk c f p (lRep (lLen x) z, 0) ∧ (loopV c f (lRep (lLen x) z, 0)).1 = x := by
  have h := loop_inv (c := c) (f := f) (p := p) (fun st => st.1.length = x.length ∧ ∃ i : Nat, st.2 = i ∧ i ≤ x.length ∧ st.1.take i = x.take i) (fun st => x.length - st.2.toNat) (fun st hI => ?_) (x0 := (lRep (lLen x) z, 0)) ⟨by simp [lRep_eq, lLen_eq], 0, rfl, Nat.zero_le _, by simp⟩
  · obtain ⟨h1, ⟨h2, i, h3, h4, h5⟩, h6⟩ := h
    refine ⟨h1, ?_⟩
    rw [hc, h3, iLt_eq, lLen_eq, decide_eq_false_iff_not] at h6
    have : i = x.length := by omega
    subst this
    rw [List.take_length, ← h2, List.take_length] at h5
    exact h5
  · obtain ⟨l, j⟩ := st
    obtain ⟨h2, i, h3, h4, h5⟩ := hI
    simp only at h2 h3 h5
    subst h3
    refine ⟨hp l i h2 h4, fun hcc => ?_⟩
    rw [hc, iLt_eq, lLen_eq, decide_eq_true_eq] at hcc
    simp only at hcc
    have hi : i < x.length := by omega
    rw [hf l i hi]
    simp only [Int.toNat_natCast]
    rw [iAdd_i64 (by unfold In64; omega)]
    refine ⟨⟨by simp [h2], i + 1, by omega, by omega, set_take x i hi d l h2 h5⟩, by omega⟩
theorem copyg_ok {α : Type} {c : List α × Int → Bool} {f : List α × Int → List α × Int} {p : List α × Int → Prop} (x : List α) (z d : α) (hn : x.length ≤ 1048576)
    (hc : ∀ st, c st = iLt st.2 (lLen x)) (hf : ∀ (l : List α) (i : Nat), i < x.length → f (l, (i : Int)) = (l.set i (x.getD i d), iAdd .i64 i 1))
    (hp : ∀ (l : List α) (i : Nat), l.length = x.length → i ≤ x.length → p (l, i)) : LoopOk c f p (lRep (lLen x) z, 0) := (copyg_loop x z d hn hc hf hp).1
theorem copyg_v {α : Type} {c : List α × Int → Bool} {f : List α × Int → List α × Int} (x : List α) (z d : α) (hn : x.length ≤ 1048576)
    (hc : ∀ st, c st = iLt st.2 (lLen x)) (hf : ∀ (l : List α) (i : Nat), i < x.length → f (l, (i : Int)) = (l.set i (x.getD i d), iAdd .i64 i 1)) : (loopV c f (lRep (lLen x) z, 0)).1 = x := (copyg_loop (p := fun _ => True) x z d hn hc hf (fun _ _ _ _ => trivial)).2
theorem getD_mem {α : Type} (x : List α) (i : Nat) (d : α) (h : i < x.length) : x.getD i d ∈ x := by
  rw [List.getD_eq_getElem?_getD, List.getElem?_eq_getElem h]; exact List.getElem_mem h
theorem roomy_of {n : Int} {w : Nat} (h0 : 0 ≤ n) (h : n ≤ 1048576) (hw : w ≤ 1000) : roomy (n.toNat * w) := by
  show n.toNat * w ≤ 2 ^ 40
  have h1 : n.toNat ≤ 1048576 := by omega
  have := Nat.mul_le_mul h1 hw
  omega
theorem sz_loop {α : Type} {c : Int × Int → Bool} {f : Int × Int → Int × Int} {p : Int × Int → Prop} (x : List α) (d : α) (S : α → Prop) (g : α → Int → Int) (l0 : Int) (h0 : 0 ≤ l0) (h1 : l0 ≤ 1048576) (hn : x.length ≤ 1048576)
    (hg : ∀ i, i < x.length → ∀ l, 0 ≤ l → l ≤ 1048576 → g (x.getD i d) l < 0 ∨ (0 ≤ g (x.getD i d) l ∧ g (x.getD i d) l ≤ l ∧ S (x.getD i d)))
    (hc : ∀ (l : Int) (i : Nat), i ≤ x.length → c (l, (i : Int)) = (decide (i < x.length) && !decide (g (x.getD i d) l < 0))) (hf : ∀ (l : Int) (i : Nat), i < x.length → f (l, (i : Int)) = (g (x.getD i d) l, iAdd .i64 i 1))
    (hp : ∀ (l : Int) (i : Nat), 0 ≤ l → l ≤ 1048576 → i ≤ x.length → p (l, i)) :
    LoopOk c f p (l0, 0) ∧ ((loopV c f (l0, 0)).2 < (x.length : Int) ∨ (¬ (loopV c f (l0, 0)).2 < (x.length : Int) ∧ 0 ≤ (loopV c f (l0, 0)).1 ∧ (loopV c f (l0, 0)).1 ≤ l0 ∧ ∀ a ∈ x, S a)) := by
  have h := loop_inv (c := c) (f := f) (p := p) (fun st => 0 ≤ st.1 ∧ st.1 ≤ l0 ∧ ∃ i : Nat, st.2 = i ∧ i ≤ x.length ∧ ∀ j, j < i → S (x.getD j d)) (fun st => x.length - st.2.toNat) (fun st hI => ?_) (x0 := (l0, 0)) ⟨h0, Int.le_refl _, 0, rfl, Nat.zero_le _, fun j hj => by omega⟩
  · obtain ⟨k1, ⟨k2, k3, i, k4, k5, k6⟩, k7⟩ := h
    refine ⟨k1, ?_⟩
    rw [k4]
    rcases Nat.lt_or_ge i x.length with hi | hi
    · left; omega
    · right
      refine ⟨by omega, k2, k3, fun a ha => ?_⟩
      obtain ⟨j, hj, rfl⟩ := List.getElem_of_mem ha
      have := k6 j (by omega)
      rw [List.getD_eq_getElem?_getD, List.getElem?_eq_getElem hj] at this
      exact this
  · obtain ⟨l, j⟩ := st
    obtain ⟨k1, k2, i, k3, k4, k5⟩ := hI
    simp only at k1 k2 k3
    subst k3
    refine ⟨hp l i k1 (by omega) k4, fun hcc => ?_⟩
    rw [hc l i k4] at hcc
    simp only [Bool.and_eq_true, decide_eq_true_eq, Bool.not_eq_true', decide_eq_false_iff_not] at hcc
    obtain ⟨hi, hcc⟩ := hcc
    have hgi := (hg i hi l k1 (by omega)).resolve_left hcc
    rw [hf l i hi]
    simp only [Int.toNat_natCast]
    rw [iAdd_i64 (by unfold In64; omega)]
    refine ⟨⟨hgi.1, by omega, i + 1, by omega, by omega, fun j hj => ?_⟩, by omega⟩
    by_cases hji : j = i
    · subst hji; exact hgi.2.2
    · exact k5 j (by omega)
theorem sz_ok {α : Type} {c : Int × Int → Bool} {f : Int × Int → Int × Int} {p : Int × Int → Prop} (x : List α) (d : α) (S : α → Prop) (g : α → Int → Int) (l0 : Int) (h0 : 0 ≤ l0) (h1 : l0 ≤ 1048576) (hn : x.length ≤ 1048576)
    (hg : ∀ i, i < x.length → ∀ l, 0 ≤ l → l ≤ 1048576 → g (x.getD i d) l < 0 ∨ (0 ≤ g (x.getD i d) l ∧ g (x.getD i d) l ≤ l ∧ S (x.getD i d)))
    (hc : ∀ (l : Int) (i : Nat), i ≤ x.length → c (l, (i : Int)) = (decide (i < x.length) && !decide (g (x.getD i d) l < 0))) (hf : ∀ (l : Int) (i : Nat), i < x.length → f (l, (i : Int)) = (g (x.getD i d) l, iAdd .i64 i 1))
    (hp : ∀ (l : Int) (i : Nat), 0 ≤ l → l ≤ 1048576 → i ≤ x.length → p (l, i)) : LoopOk c f p (l0, 0) := (sz_loop x d S g l0 h0 h1 hn hg hc hf hp).1
theorem sz_v {α : Type} {c : Int × Int → Bool} {f : Int × Int → Int × Int} (x : List α) (d : α) (S : α → Prop) (g : α → Int → Int) (l0 : Int) (h0 : 0 ≤ l0) (h1 : l0 ≤ 1048576) (hn : x.length ≤ 1048576)
    (hg : ∀ i, i < x.length → ∀ l, 0 ≤ l → l ≤ 1048576 → g (x.getD i d) l < 0 ∨ (0 ≤ g (x.getD i d) l ∧ g (x.getD i d) l ≤ l ∧ S (x.getD i d)))
    (hc : ∀ (l : Int) (i : Nat), i ≤ x.length → c (l, (i : Int)) = (decide (i < x.length) && !decide (g (x.getD i d) l < 0))) (hf : ∀ (l : Int) (i : Nat), i < x.length → f (l, (i : Int)) = (g (x.getD i d) l, iAdd .i64 i 1)) :
    (loopV c f (l0, 0)).2 < (x.length : Int) ∨ (¬ (loopV c f (l0, 0)).2 < (x.length : Int) ∧ 0 ≤ (loopV c f (l0, 0)).1 ∧ (loopV c f (l0, 0)).1 ≤ l0 ∧ ∀ a ∈ x, S a) := (sz_loop (p := fun _ => True) x d S g l0 h0 h1 hn hg hc hf (fun _ _ _ _ _ => trivial)).2
theorem sz_fin {α : Type} {x : List α} {y : Int × Int} {l0 l : Int} {S : α → Prop} (h : l0 ≤ l) (hv : y.2 < (x.length : Int) ∨ (¬ y.2 < (x.length : Int) ∧ 0 ≤ y.1 ∧ y.1 ≤ l0 ∧ ∀ a ∈ x, S a)) :
    bSel (iLt y.2 (lLen x)) (-1) y.1 < 0 ∨ (0 ≤ bSel (iLt y.2 (lLen x)) (-1) y.1 ∧ bSel (iLt y.2 (lLen x)) (-1) y.1 ≤ l ∧ ∀ a ∈ x, S a) := by
  rw [iLt_eq, lLen_eq]
  rcases hv with hv | ⟨hv, h2, h3, h4⟩
  · rw [decide_eq_true hv, bSel_t]; left; omega
  · rw [decide_eq_false hv, bSel_f]; right; exact ⟨h2, by omega, h4⟩
theorem cnt_ok {X : Type} {c : X → Bool} {f : X → X} {p : X → Prop} (ix : X → Int) (n : Int) (hn : n ≤ 9223372036854775806) (hc : ∀ x, 0 ≤ ix x → ix x ≤ n → c x = true → ix x < n) (hf : ∀ x, ix (f x) = iAdd .i64 (ix x) 1) (hp : ∀ x, 0 ≤ ix x → ix x ≤ n → p x) {x0 : X} (h0 : 0 ≤ ix x0) (h1 : ix x0 ≤ n) : LoopOk c f p x0 := by
  refine (loop_inv (fun x => 0 ≤ ix x ∧ ix x ≤ n) (fun x => (n - ix x).toNat) (fun x hI => ⟨hp x hI.1 hI.2, fun hcc => ?_⟩) ⟨h0, h1⟩).1
  have := hc x hI.1 hI.2 hcc
  obtain ⟨k1, k2⟩ := hI
  have e := hf x
  rw [iAdd_i64 (by unfold In64; omega)] at e
  refine ⟨by omega, by omega⟩
section
set_option maxRecDepth 8000
noncomputable def dc_laws_eqAction : DCode :=
  (.seq [3, 2] (.region [oa 0 2 (.boxB 0 4 (.t 0)),
 oa 1 3 (.boxB 1 4 (.t 1)),
 oa 2 4 (.mv (.c (.bool false)))])
  (.seq [3, 2] (.seq [9, 3, 2] (.region [oa 0 5 (.fieldA 0 (.t 2)),
 oa 1 6 (.loadB 0 none (.t 5)),
 oa 2 7 (.fieldA 0 (.t 3)),
 oa 3 8 (.loadB 1 none (.t 7)),
 oa 4 9 (.bin .neq (.t 6) (.t 8))])
  (.cond (.t 9) (.seq [4] (.region [oa 0 4 (.mv (.c (.bool false)))])
  .ret) .skip))
  (.seq [3, 2] (.seq [14, 3, 2] (.region [oa 0 10 (.fieldA 1 (.t 2)),
 oa 1 11 (.loadB 0 none (.t 10)),
 oa 2 12 (.fieldA 1 (.t 3)),
 oa 3 13 (.loadB 1 none (.t 12)),
 oa 4 14 (.bin .neq (.t 11) (.t 13))])
  (.cond (.t 14) (.seq [4] (.region [oa 0 4 (.mv (.c (.bool false)))])
  .ret) .skip))
  (.seq [3, 2] (.seq [19, 3, 2] (.region [oa 0 15 (.fieldA 2 (.t 2)),
 oa 1 16 (.loadB 0 none (.t 15)),
 oa 2 17 (.fieldA 2 (.t 3)),
 oa 3 18 (.loadB 1 none (.t 17)),
 oa 4 19 (.bin .neq (.t 16) (.t 18))])
  (.cond (.t 19) (.seq [4] (.region [oa 0 4 (.mv (.c (.bool false)))])
  .ret) .skip))
  (.seq [] (.seq [24] (.region [oa 0 20 (.fieldA 3 (.t 2)),
 oa 1 21 (.loadB 0 none (.t 20)),
 oa 2 22 (.fieldA 3 (.t 3)),
 oa 3 23 (.loadB 1 none (.t 22)),
 oa 4 24 (.bin .neq (.t 21) (.t 23))])
  (.cond (.t 24) (.seq [4] (.region [oa 0 4 (.mv (.c (.bool false)))])
  .ret) .skip))
  (.seq [4] (.region [oa 0 4 (.mv (.c (.bool true)))])
  .ret))))))
noncomputable def df_laws_eqAction : DFun := ⟨2, 25, 2, true, [.tmp 4], dc_laws_eqAction⟩
noncomputable def pf_laws_eqAction : PFun := df_laws_eqAction.er
noncomputable def f_laws_eqAction : AFun := pf_laws_eqAction.er
@[irreducible] noncomputable def s_laws_eqAction : CallSem := funSem f_laws_eqAction
@[irreducible] noncomputable def p_laws_eqAction : PSem := pfunSem pf_laws_eqAction
theorem sp_laws_eqAction : SoundP s_laws_eqAction p_laws_eqAction := by unfold s_laws_eqAction p_laws_eqAction; exact pfun_sound (f := pf_laws_eqAction) trivial
def h_laws_eqAction : List HT := [.agg [(.frz, .int .i64), (.frz, .int .i64), (.frz, .int .i64), (.frz, .int .i64)], .agg [(.frz, .int .i64), (.frz, .int .i64), (.frz, .int .i64), (.frz, .int .i64)]]
def q_laws_eqAction : QT := .one (.one .own (.bool))
@[irreducible] noncomputable def v_laws_eqAction (x : (Int × Int × Int × Int) × (Int × Int × Int × Int)) : Bool := fnV df_laws_eqAction h_laws_eqAction q_laws_eqAction x
@[irreducible] noncomputable def ok_laws_eqAction (x : (Int × Int × Int × Int) × (Int × Int × Int × Int)) : Prop := fnOk df_laws_eqAction h_laws_eqAction q_laws_eqAction x
noncomputable def D_laws_eqAction : DSem := DSemOf h_laws_eqAction q_laws_eqAction ok_laws_eqAction v_laws_eqAction
theorem ck_laws_eqAction (x : (Int × Int × Int × Int) × (Int × Int × Int × Int)) : fnChk df_laws_eqAction h_laws_eqAction q_laws_eqAction x = true := by kernel_rfl
theorem ob_laws_eqAction : AllD df_laws_eqAction.body.obs := trivial
theorem st_laws_eqAction : fnSt df_laws_eqAction h_laws_eqAction q_laws_eqAction = true := by kernel_rfl
theorem sd_laws_eqAction : SoundD p_laws_eqAction D_laws_eqAction := by unfold p_laws_eqAction; exact soundD_of (f := df_laws_eqAction) (hs := h_laws_eqAction) (q := q_laws_eqAction) ob_laws_eqAction st_laws_eqAction ck_laws_eqAction (fun x h => by unfold ok_laws_eqAction at h; exact h) (fun x => by unfold v_laws_eqAction; rfl)
end
section
set_option maxRecDepth 100000
theorem ve_laws_eqAction (x : (Int × Int × Int × Int) × (Int × Int × Int × Int)) : v_laws_eqAction x = (bAnd (bNot (iNe x.1.1 x.2.1)) (bAnd (bNot (iNe x.1.2.1 x.2.2.1)) (bAnd (bNot (iNe x.1.2.2.1 x.2.2.2.1)) (bNot (iNe x.1.2.2.2 x.2.2.2.2))))) := by kernel_rfl
theorem oe_laws_eqAction (x : (Int × Int × Int × Int) × (Int × Int × Int × Int)) : ok_laws_eqAction x = True := by kernel_rfl
end
section
set_option maxRecDepth 8000
noncomputable def dc_laws_szHeldS : DCode :=
  (.seq [1, 0] (.region [oi 0 4 0])
  (.seq [1] (.region [om 0 5 1,
 on 1 6 0,
 oa 2 7 (.len (.t 6)),
 oa 3 8 (.bin .sub (.t 5) (.t 7)),
 om 4 1 8])
  (.seq [1] (.seq [10, 1] (.region [om 0 9 1,
 oa 1 10 (.bin .lss (.t 9) (.c (.int .i64 0)))])
  (.cond (.t 10) (.seq [4] (.region [oi 0 4 (-1)])
  .ret) .skip))
  (.seq [4] (.region [om 0 11 1,
 om 1 4 11])
  .ret))))
noncomputable def df_laws_szHeldS : DFun := ⟨2, 12, 0, true, [.tmp 4], dc_laws_szHeldS⟩
noncomputable def pf_laws_szHeldS : PFun := df_laws_szHeldS.er
noncomputable def f_laws_szHeldS : AFun := pf_laws_szHeldS.er
@[irreducible] noncomputable def s_laws_szHeldS : CallSem := funSem f_laws_szHeldS
@[irreducible] noncomputable def p_laws_szHeldS : PSem := pfunSem pf_laws_szHeldS
theorem sp_laws_szHeldS : SoundP s_laws_szHeldS p_laws_szHeldS := by unfold s_laws_szHeldS p_laws_szHeldS; exact pfun_sound (f := pf_laws_szHeldS) trivial
def h_laws_szHeldS : List HT := [.one .frz (.sl (.cons (.int .i64) (.cons (.int .i64) (.cons (.int .i64) (.cons (.int .i64) (.one (.int .i64))))))), .one .frz (.int .i64)]
def q_laws_szHeldS : QT := .one (.one .own (.int .i64))
@[irreducible] noncomputable def v_laws_szHeldS (x : (List (Int × Int × Int × Int × Int)) × Int) : Int := fnV df_laws_szHeldS h_laws_szHeldS q_laws_szHeldS x
@[irreducible] noncomputable def ok_laws_szHeldS (x : (List (Int × Int × Int × Int × Int)) × Int) : Prop := fnOk df_laws_szHeldS h_laws_szHeldS q_laws_szHeldS x
noncomputable def D_laws_szHeldS : DSem := DSemOf h_laws_szHeldS q_laws_szHeldS ok_laws_szHeldS v_laws_szHeldS
theorem ck_laws_szHeldS (x : (List (Int × Int × Int × Int × Int)) × Int) : fnChk df_laws_szHeldS h_laws_szHeldS q_laws_szHeldS x = true := by kernel_rfl
theorem ob_laws_szHeldS : AllD df_laws_szHeldS.body.obs := trivial
theorem st_laws_szHeldS : fnSt df_laws_szHeldS h_laws_szHeldS q_laws_szHeldS = true := by kernel_rfl
theorem sd_laws_szHeldS : SoundD p_laws_szHeldS D_laws_szHeldS := by unfold p_laws_szHeldS; exact soundD_of (f := df_laws_szHeldS) (hs := h_laws_szHeldS) (q := q_laws_szHeldS) ob_laws_szHeldS st_laws_szHeldS ck_laws_szHeldS (fun x h => by unfold ok_laws_szHeldS at h; exact h) (fun x => by unfold v_laws_szHeldS; rfl)
noncomputable def dc_laws_toAction : DCode :=
  (.seq [2, 1] (.region [oa 0 1 (.boxB 0 4 (.t 0)),
 oa 1 2 (.allocB 1 [(.int .i64 0), (.int .i64 0), (.int .i64 0), (.int .i64 0)])])
  (.seq [3, 2, 1] (.region [oa 0 3 (.allocB 2 [(.int .i64 0), (.int .i64 0), (.int .i64 0), (.int .i64 0)])])
  (.seq [3, 2, 1] (.region [oa 0 4 (.fieldA 0 (.t 1)),
 ob 1 5 (.loadB 0 none (.t 4)),
 oa 2 6 (.fieldA 0 (.t 3)),
 os 3 (.storeB 2 1 (.t 6) (.t 5))])
  (.seq [3, 2, 1] (.region [oa 0 7 (.fieldA 1 (.t 1)),
 ob 1 8 (.loadB 0 none (.t 7)),
 oa 2 9 (.fieldA 1 (.t 3)),
 os 3 (.storeB 2 1 (.t 9) (.t 8))])
  (.seq [3, 2, 1] (.region [oa 0 10 (.fieldA 2 (.t 1)),
 ob 1 11 (.loadB 0 none (.t 10)),
 oa 2 12 (.fieldA 2 (.t 3)),
 os 3 (.storeB 2 1 (.t 12) (.t 11))])
  (.seq [3, 2] (.region [oa 0 13 (.fieldA 3 (.t 1)),
 ob 1 14 (.loadB 0 none (.t 13)),
 oa 2 15 (.fieldA 3 (.t 3)),
 os 3 (.storeB 2 1 (.t 15) (.t 14))])
  (.seq [2] (.region [ob 0 16 (.loadB 2 (some 4) (.t 3)),
 os 1 (.storeB 1 4 (.t 2) (.t 16))])
  .ret)))))))
noncomputable def df_laws_toAction : DFun := ⟨1, 17, 3, true, [.cell 2 (some 4)], dc_laws_toAction⟩
noncomputable def pf_laws_toAction : PFun := df_laws_toAction.er
noncomputable def f_laws_toAction : AFun := pf_laws_toAction.er
@[irreducible] noncomputable def s_laws_toAction : CallSem := funSem f_laws_toAction
@[irreducible] noncomputable def p_laws_toAction : PSem := pfunSem pf_laws_toAction
theorem sp_laws_toAction : SoundP s_laws_toAction p_laws_toAction := by unfold s_laws_toAction p_laws_toAction; exact pfun_sound (f := pf_laws_toAction) trivial
def h_laws_toAction : List HT := [.agg [(.frz, .int .i64), (.frz, .int .i64), (.frz, .int .i64), (.frz, .int .i64)]]
def q_laws_toAction : QT := .one (.agg [(.own, .int .i64), (.own, .int .i64), (.own, .int .i64), (.own, .int .i64)])
@[irreducible] noncomputable def v_laws_toAction (x : Int × Int × Int × Int) : Int × Int × Int × Int := fnV df_laws_toAction h_laws_toAction q_laws_toAction x
@[irreducible] noncomputable def ok_laws_toAction (x : Int × Int × Int × Int) : Prop := fnOk df_laws_toAction h_laws_toAction q_laws_toAction x
noncomputable def D_laws_toAction : DSem := DSemOf h_laws_toAction q_laws_toAction ok_laws_toAction v_laws_toAction
theorem ck_laws_toAction (x : Int × Int × Int × Int) : fnChk df_laws_toAction h_laws_toAction q_laws_toAction x = true := by kernel_rfl
theorem ob_laws_toAction : AllD df_laws_toAction.body.obs := trivial
theorem st_laws_toAction : fnSt df_laws_toAction h_laws_toAction q_laws_toAction = true := by kernel_rfl
theorem sd_laws_toAction : SoundD p_laws_toAction D_laws_toAction := by unfold p_laws_toAction; exact soundD_of (f := df_laws_toAction) (hs := h_laws_toAction) (q := q_laws_toAction) ob_laws_toAction st_laws_toAction ck_laws_toAction (fun x h => by unfold ok_laws_toAction at h; exact h) (fun x => by unfold v_laws_toAction; rfl)
noncomputable def dc_laws_toHeld : DCode :=
  (.seq [2, 1] (.region [oa 0 1 (.boxB 0 5 (.t 0)),
 oa 1 2 (.allocB 1 [(.int .i64 0), (.int .i64 0), (.int .i64 0), (.int .i64 0), (.int .i64 0)])])
  (.seq [3, 2, 1] (.region [oa 0 3 (.allocB 2 [(.int .i64 0), (.int .i64 0), (.int .i64 0), (.int .i64 0), (.int .i64 0)])])
  (.seq [3, 2, 1] (.region [oa 0 4 (.fieldA 0 (.t 1)),
 ob 1 5 (.loadB 0 none (.t 4)),
 oa 2 6 (.fieldA 0 (.t 3)),
 os 3 (.storeB 2 1 (.t 6) (.t 5))])
  (.seq [3, 2] (.region [oa 0 7 (.fieldA 1 (.t 1)),
 oa 1 8 (.loadB 0 (some 4) (.t 7)),
 oc 2 9 s_laws_toAction p_laws_toAction D_laws_toAction [(.t 8)],
 oa 3 10 (.fieldA 1 (.t 3)),
 os 4 (.storeB 2 4 (.t 10) (.t 9))])
  (.seq [2] (.region [ob 0 11 (.loadB 2 (some 5) (.t 3)),
 os 1 (.storeB 1 5 (.t 2) (.t 11))])
  .ret)))))
noncomputable def df_laws_toHeld : DFun := ⟨1, 12, 3, true, [.cell 2 (some 5)], dc_laws_toHeld⟩
noncomputable def pf_laws_toHeld : PFun := df_laws_toHeld.er
noncomputable def f_laws_toHeld : AFun := pf_laws_toHeld.er
@[irreducible] noncomputable def s_laws_toHeld : CallSem := funSem f_laws_toHeld
@[irreducible] noncomputable def p_laws_toHeld : PSem := pfunSem pf_laws_toHeld
theorem sp_laws_toHeld : SoundP s_laws_toHeld p_laws_toHeld := by unfold s_laws_toHeld p_laws_toHeld; exact pfun_sound (f := pf_laws_toHeld) ⟨sp_laws_toAction, trivial⟩
def h_laws_toHeld : List HT := [.agg [(.frz, .int .i64), (.frz, .int .i64), (.frz, .int .i64), (.frz, .int .i64), (.frz, .int .i64)]]
def q_laws_toHeld : QT := .one (.agg [(.own, .int .i64), (.own, .int .i64), (.own, .int .i64), (.own, .int .i64), (.own, .int .i64)])
@[irreducible] noncomputable def v_laws_toHeld (x : Int × Int × Int × Int × Int) : Int × Int × Int × Int × Int := fnV df_laws_toHeld h_laws_toHeld q_laws_toHeld x
@[irreducible] noncomputable def ok_laws_toHeld (x : Int × Int × Int × Int × Int) : Prop := fnOk df_laws_toHeld h_laws_toHeld q_laws_toHeld x
noncomputable def D_laws_toHeld : DSem := DSemOf h_laws_toHeld q_laws_toHeld ok_laws_toHeld v_laws_toHeld
theorem ck_laws_toHeld (x : Int × Int × Int × Int × Int) : fnChk df_laws_toHeld h_laws_toHeld q_laws_toHeld x = true := by kernel_rfl
theorem ob_laws_toHeld : AllD df_laws_toHeld.body.obs := ⟨sd_laws_toAction, trivial⟩
theorem st_laws_toHeld : fnSt df_laws_toHeld h_laws_toHeld q_laws_toHeld = true := by kernel_rfl
theorem sd_laws_toHeld : SoundD p_laws_toHeld D_laws_toHeld := by unfold p_laws_toHeld; exact soundD_of (f := df_laws_toHeld) (hs := h_laws_toHeld) (q := q_laws_toHeld) ob_laws_toHeld st_laws_toHeld ck_laws_toHeld (fun x h => by unfold ok_laws_toHeld at h; exact h) (fun x => by unfold v_laws_toHeld; rfl)
noncomputable def dc_laws_toHeldS : DCode :=
  (.seq [0] (.region [oa 0 2 (.mv (.c .nils))])
  (.seq [3, 0] (.region [on 0 5 0,
 oa 1 6 (.len (.t 5)),
 ⟨2, some 7, .a false (.mkSlice 5 [(.int .i64 0), (.int .i64 0), (.int .i64 0), (.int .i64 0), (.int .i64 0)] (.t 6)) (some (.cons (.int .i64) (.cons (.int .i64) (.cons (.int .i64) (.cons (.int .i64) (.one (.int .i64))))))), none, []⟩,
 om 3 3 7])
  (.seq [3] (.seq [4, 3, 0] (.region [oi 0 4 0])
  (.block 0 (.loop [0, 3, 4] 1 (.seq [4, 3, 0] (.seq [11, 4, 3, 0] (.region [om 0 8 4,
 on 1 9 0,
 oa 2 10 (.len (.t 9)),
 oa 3 11 (.bin .lss (.t 8) (.t 10))])
  (.cond (.t 11) .skip (.exit 0)))
  (.seq [4, 3, 0] (.block 1 (.region [on 0 14 3,
 om 1 15 4,
 on 2 16 0,
 om 3 17 4,
 oa 4 18 (.indexA 5 (.t 16) (.t 17)),
 oa 5 19 (.loadH (some 5) (.t 18)),
 oc 6 20 s_laws_toHeld p_laws_toHeld D_laws_toHeld [(.t 19)],
 oa 7 21 (.indexA 5 (.t 14) (.t 15)),
 os 8 (.storeH 5 (.t 21) (.t 20))]))
  (.region [om 0 12 4,
 oa 1 13 (.bin .add (.t 12) (.c (.int .i64 1))),
 om 2 4 13]))))))
  (.seq [2] (.region [om 0 22 3,
 om 1 2 22])
  .ret))))
noncomputable def df_laws_toHeldS : DFun := ⟨1, 23, 0, false, [.tmp 2], dc_laws_toHeldS⟩
noncomputable def pf_laws_toHeldS : PFun := df_laws_toHeldS.er
noncomputable def f_laws_toHeldS : AFun := pf_laws_toHeldS.er
@[irreducible] noncomputable def s_laws_toHeldS : CallSem := funSem f_laws_toHeldS
@[irreducible] noncomputable def p_laws_toHeldS : PSem := pfunSem pf_laws_toHeldS
theorem sp_laws_toHeldS : SoundP s_laws_toHeldS p_laws_toHeldS := by unfold s_laws_toHeldS p_laws_toHeldS; exact pfun_sound (f := pf_laws_toHeldS) ⟨sp_laws_toHeld, trivial⟩
def h_laws_toHeldS : List HT := [.one .frz (.sl (.cons (.int .i64) (.cons (.int .i64) (.cons (.int .i64) (.cons (.int .i64) (.one (.int .i64)))))))]
def q_laws_toHeldS : QT := .one (.one .own (.sl (.cons (.int .i64) (.cons (.int .i64) (.cons (.int .i64) (.cons (.int .i64) (.one (.int .i64))))))))
@[irreducible] noncomputable def v_laws_toHeldS (x : List (Int × Int × Int × Int × Int)) : List (Int × Int × Int × Int × Int) := fnV df_laws_toHeldS h_laws_toHeldS q_laws_toHeldS x
@[irreducible] noncomputable def ok_laws_toHeldS (x : List (Int × Int × Int × Int × Int)) : Prop := fnOk df_laws_toHeldS h_laws_toHeldS q_laws_toHeldS x
noncomputable def D_laws_toHeldS : DSem := DSemOf h_laws_toHeldS q_laws_toHeldS ok_laws_toHeldS v_laws_toHeldS
theorem ck_laws_toHeldS (x : List (Int × Int × Int × Int × Int)) : fnChk df_laws_toHeldS h_laws_toHeldS q_laws_toHeldS x = true := by kernel_rfl
theorem ob_laws_toHeldS : AllD df_laws_toHeldS.body.obs := ⟨sd_laws_toHeld, trivial⟩
theorem st_laws_toHeldS : fnSt df_laws_toHeldS h_laws_toHeldS q_laws_toHeldS = true := by kernel_rfl
theorem sd_laws_toHeldS : SoundD p_laws_toHeldS D_laws_toHeldS := by unfold p_laws_toHeldS; exact soundD_of (f := df_laws_toHeldS) (hs := h_laws_toHeldS) (q := q_laws_toHeldS) ob_laws_toHeldS st_laws_toHeldS ck_laws_toHeldS (fun x h => by unfold ok_laws_toHeldS at h; exact h) (fun x => by unfold v_laws_toHeldS; rfl)
noncomputable def dc_laws_eqHeld : DCode :=
  (.seq [3, 2] (.region [oa 0 2 (.boxB 0 5 (.t 0)),
 oa 1 3 (.boxB 1 5 (.t 1)),
 oa 2 4 (.mv (.c (.bool false)))])
  (.seq [3, 2] (.seq [9, 3, 2] (.region [oa 0 5 (.fieldA 0 (.t 2)),
 oa 1 6 (.loadB 0 none (.t 5)),
 oa 2 7 (.fieldA 0 (.t 3)),
 oa 3 8 (.loadB 1 none (.t 7)),
 oa 4 9 (.bin .neq (.t 6) (.t 8))])
  (.cond (.t 9) (.seq [4] (.region [oa 0 4 (.mv (.c (.bool false)))])
  .ret) .skip))
  (.seq [] (.seq [15] (.region [oa 0 10 (.fieldA 1 (.t 2)),
 oa 1 11 (.loadB 0 (some 4) (.t 10)),
 oa 2 12 (.fieldA 1 (.t 3)),
 oa 3 13 (.loadB 1 (some 4) (.t 12)),
 oc 4 14 s_laws_eqAction p_laws_eqAction D_laws_eqAction [(.t 11), (.t 13)],
 oa 5 15 (.un .not (.t 14))])
  (.cond (.t 15) (.seq [4] (.region [oa 0 4 (.mv (.c (.bool false)))])
  .ret) .skip))
  (.seq [4] (.region [oa 0 4 (.mv (.c (.bool true)))])
  .ret))))
noncomputable def df_laws_eqHeld : DFun := ⟨2, 16, 2, true, [.tmp 4], dc_laws_eqHeld⟩
noncomputable def pf_laws_eqHeld : PFun := df_laws_eqHeld.er
noncomputable def f_laws_eqHeld : AFun := pf_laws_eqHeld.er
@[irreducible] noncomputable def s_laws_eqHeld : CallSem := funSem f_laws_eqHeld
@[irreducible] noncomputable def p_laws_eqHeld : PSem := pfunSem pf_laws_eqHeld
theorem sp_laws_eqHeld : SoundP s_laws_eqHeld p_laws_eqHeld := by unfold s_laws_eqHeld p_laws_eqHeld; exact pfun_sound (f := pf_laws_eqHeld) ⟨sp_laws_eqAction, trivial⟩
def h_laws_eqHeld : List HT := [.agg [(.frz, .int .i64), (.frz, .int .i64), (.frz, .int .i64), (.frz, .int .i64), (.frz, .int .i64)], .agg [(.frz, .int .i64), (.frz, .int .i64), (.frz, .int .i64), (.frz, .int .i64), (.frz, .int .i64)]]
def q_laws_eqHeld : QT := .one (.one .own (.bool))
@[irreducible] noncomputable def v_laws_eqHeld (x : (Int × Int × Int × Int × Int) × (Int × Int × Int × Int × Int)) : Bool := fnV df_laws_eqHeld h_laws_eqHeld q_laws_eqHeld x
@[irreducible] noncomputable def ok_laws_eqHeld (x : (Int × Int × Int × Int × Int) × (Int × Int × Int × Int × Int)) : Prop := fnOk df_laws_eqHeld h_laws_eqHeld q_laws_eqHeld x
noncomputable def D_laws_eqHeld : DSem := DSemOf h_laws_eqHeld q_laws_eqHeld ok_laws_eqHeld v_laws_eqHeld
theorem ck_laws_eqHeld (x : (Int × Int × Int × Int × Int) × (Int × Int × Int × Int × Int)) : fnChk df_laws_eqHeld h_laws_eqHeld q_laws_eqHeld x = true := by kernel_rfl
theorem ob_laws_eqHeld : AllD df_laws_eqHeld.body.obs := ⟨sd_laws_eqAction, trivial⟩
theorem st_laws_eqHeld : fnSt df_laws_eqHeld h_laws_eqHeld q_laws_eqHeld = true := by kernel_rfl
theorem sd_laws_eqHeld : SoundD p_laws_eqHeld D_laws_eqHeld := by unfold p_laws_eqHeld; exact soundD_of (f := df_laws_eqHeld) (hs := h_laws_eqHeld) (q := q_laws_eqHeld) ob_laws_eqHeld st_laws_eqHeld ck_laws_eqHeld (fun x h => by unfold ok_laws_eqHeld at h; exact h) (fun x => by unfold v_laws_eqHeld; rfl)
noncomputable def dc_laws_eqHeldS : DCode :=
  (.seq [1, 0] (.region [oa 0 4 (.mv (.c (.bool false)))])
  (.seq [1, 0] (.seq [10, 1, 0] (.region [on 0 6 0,
 oa 1 7 (.len (.t 6)),
 on 2 8 1,
 oa 3 9 (.len (.t 8)),
 oa 4 10 (.bin .neq (.t 7) (.t 9))])
  (.cond (.t 10) (.seq [4] (.region [oa 0 4 (.mv (.c (.bool false)))])
  .ret) .skip))
  (.seq [] (.seq [5, 1, 0] (.region [oi 0 5 0])
  (.block 0 (.loop [0, 1, 5] 1 (.seq [5, 1, 0] (.seq [14, 5, 1, 0] (.region [om 0 11 5,
 on 1 12 0,
 oa 2 13 (.len (.t 12)),
 oa 3 14 (.bin .lss (.t 11) (.t 13))])
  (.cond (.t 14) .skip (.exit 0)))
  (.seq [5, 1, 0] (.block 1 (.seq [26, 5, 1, 0] (.region [on 0 17 0,
 om 1 18 5,
 xA 2 19 (.indexA 5 (.t 17) (.t 18)) (rg 2),
 xA 3 20 (.loadH (some 5) (.t 19)) (rg 3),
 on 4 21 1,
 om 5 22 5,
 xA 6 23 (.indexA 5 (.t 21) (.t 22)) [4, 5],
 xA 7 24 (.loadH (some 5) (.t 23)) [4, 5, 6],
 xC 8 25 s_laws_eqHeld p_laws_eqHeld D_laws_eqHeld [(.t 20), (.t 24)] (rg 8),
 xA 9 26 (.un .not (.t 25)) (rg 9)])
  (.cond (.t 26) (.seq [4] (.region [oa 0 4 (.mv (.c (.bool false)))])
  .ret) .skip)))
  (.region [om 0 15 5,
 oa 1 16 (.bin .add (.t 15) (.c (.int .i64 1))),
 om 2 5 16]))))))
  (.seq [4] (.region [oa 0 4 (.mv (.c (.bool true)))])
  .ret))))
noncomputable def df_laws_eqHeldS : DFun := ⟨2, 27, 0, true, [.tmp 4], dc_laws_eqHeldS⟩
noncomputable def pf_laws_eqHeldS : PFun := df_laws_eqHeldS.er
noncomputable def f_laws_eqHeldS : AFun := pf_laws_eqHeldS.er
@[irreducible] noncomputable def s_laws_eqHeldS : CallSem := funSem f_laws_eqHeldS
@[irreducible] noncomputable def p_laws_eqHeldS : PSem := pfunSem pf_laws_eqHeldS
theorem sp_laws_eqHeldS : SoundP s_laws_eqHeldS p_laws_eqHeldS := by unfold s_laws_eqHeldS p_laws_eqHeldS; exact pfun_sound (f := pf_laws_eqHeldS) ⟨sp_laws_eqHeld, trivial⟩
def h_laws_eqHeldS : List HT := [.one .frz (.sl (.cons (.int .i64) (.cons (.int .i64) (.cons (.int .i64) (.cons (.int .i64) (.one (.int .i64))))))), .one .frz (.sl (.cons (.int .i64) (.cons (.int .i64) (.cons (.int .i64) (.cons (.int .i64) (.one (.int .i64)))))))]
def q_laws_eqHeldS : QT := .one (.one .own (.bool))
@[irreducible] noncomputable def v_laws_eqHeldS (x : (List (Int × Int × Int × Int × Int)) × (List (Int × Int × Int × Int × Int))) : Bool := fnV df_laws_eqHeldS h_laws_eqHeldS q_laws_eqHeldS x
@[irreducible] noncomputable def ok_laws_eqHeldS (x : (List (Int × Int × Int × Int × Int)) × (List (Int × Int × Int × Int × Int))) : Prop := fnOk df_laws_eqHeldS h_laws_eqHeldS q_laws_eqHeldS x
noncomputable def D_laws_eqHeldS : DSem := DSemOf h_laws_eqHeldS q_laws_eqHeldS ok_laws_eqHeldS v_laws_eqHeldS
theorem ck_laws_eqHeldS (x : (List (Int × Int × Int × Int × Int)) × (List (Int × Int × Int × Int × Int))) : fnChk df_laws_eqHeldS h_laws_eqHeldS q_laws_eqHeldS x = true := by kernel_rfl
theorem ob_laws_eqHeldS : AllD df_laws_eqHeldS.body.obs := ⟨sd_laws_eqHeld, trivial⟩
theorem st_laws_eqHeldS : fnSt df_laws_eqHeldS h_laws_eqHeldS q_laws_eqHeldS = true := by kernel_rfl
theorem sd_laws_eqHeldS : SoundD p_laws_eqHeldS D_laws_eqHeldS := by unfold p_laws_eqHeldS; exact soundD_of (f := df_laws_eqHeldS) (hs := h_laws_eqHeldS) (q := q_laws_eqHeldS) ob_laws_eqHeldS st_laws_eqHeldS ck_laws_eqHeldS (fun x h => by unfold ok_laws_eqHeldS at h; exact h) (fun x => by unfold v_laws_eqHeldS; rfl)
end
section
set_option maxRecDepth 100000
theorem ve_laws_szHeldS (x : (List (Int × Int × Int × Int × Int)) × Int) : v_laws_szHeldS x = (bSel (iLt (iSub Go.IntKind.i64 x.2 (lLen x.1)) 0) (-1) (iSub Go.IntKind.i64 x.2 (lLen x.1))) := by kernel_rfl
theorem oe_laws_szHeldS (x : (List (Int × Int × Int × Int × Int)) × Int) : ok_laws_szHeldS x = True := by kernel_rfl
theorem ve_laws_toAction (x : Int × Int × Int × Int) : v_laws_toAction x = (x.1, x.2.1, x.2.2.1, x.2.2.2) := by kernel_rfl
theorem oe_laws_toAction (x : Int × Int × Int × Int) : ok_laws_toAction x = True := by kernel_rfl
theorem ve_laws_toHeld (x : Int × Int × Int × Int × Int) : v_laws_toHeld x = (x.1, (v_laws_toAction (x.2.1, x.2.2.1, x.2.2.2.1, x.2.2.2.2)).1, (v_laws_toAction (x.2.1, x.2.2.1, x.2.2.2.1, x.2.2.2.2)).2.1, (v_laws_toAction (x.2.1, x.2.2.1, x.2.2.2.1, x.2.2.2.2)).2.2.1, (v_laws_toAction (x.2.1, x.2.2.1, x.2.2.2.1, x.2.2.2.2)).2.2.2) := by kernel_rfl
theorem oe_laws_toHeld (x : Int × Int × Int × Int × Int) : ok_laws_toHeld x = (ok_laws_toAction (x.2.1, x.2.2.1, x.2.2.2.1, x.2.2.2.2)) := by kernel_rfl
theorem ve_laws_toHeldS (x : List (Int × Int × Int × Int × Int)) : v_laws_toHeldS x = (loopV (fun (x0 : ((List (Int × (Int × (Int × (Int × Int))))) × Int)) => (iLt x0.2 (lLen x))) (fun (x0 : ((List (Int × (Int × (Int × (Int × Int))))) × Int)) => ((lSet x0.1 (iNat x0.2) ((v_laws_toHeld ((lGet x (iNat x0.2) (0, 0, 0, 0, 0)).1, (lGet x (iNat x0.2) (0, 0, 0, 0, 0)).2.1, (lGet x (iNat x0.2) (0, 0, 0, 0, 0)).2.2.1, (lGet x (iNat x0.2) (0, 0, 0, 0, 0)).2.2.2.1, (lGet x (iNat x0.2) (0, 0, 0, 0, 0)).2.2.2.2)).1, (v_laws_toHeld ((lGet x (iNat x0.2) (0, 0, 0, 0, 0)).1, (lGet x (iNat x0.2) (0, 0, 0, 0, 0)).2.1, (lGet x (iNat x0.2) (0, 0, 0, 0, 0)).2.2.1, (lGet x (iNat x0.2) (0, 0, 0, 0, 0)).2.2.2.1, (lGet x (iNat x0.2) (0, 0, 0, 0, 0)).2.2.2.2)).2.1, (v_laws_toHeld ((lGet x (iNat x0.2) (0, 0, 0, 0, 0)).1, (lGet x (iNat x0.2) (0, 0, 0, 0, 0)).2.1, (lGet x (iNat x0.2) (0, 0, 0, 0, 0)).2.2.1, (lGet x (iNat x0.2) (0, 0, 0, 0, 0)).2.2.2.1, (lGet x (iNat x0.2) (0, 0, 0, 0, 0)).2.2.2.2)).2.2.1, (v_laws_toHeld ((lGet x (iNat x0.2) (0, 0, 0, 0, 0)).1, (lGet x (iNat x0.2) (0, 0, 0, 0, 0)).2.1, (lGet x (iNat x0.2) (0, 0, 0, 0, 0)).2.2.1, (lGet x (iNat x0.2) (0, 0, 0, 0, 0)).2.2.2.1, (lGet x (iNat x0.2) (0, 0, 0, 0, 0)).2.2.2.2)).2.2.2.1, (v_laws_toHeld ((lGet x (iNat x0.2) (0, 0, 0, 0, 0)).1, (lGet x (iNat x0.2) (0, 0, 0, 0, 0)).2.1, (lGet x (iNat x0.2) (0, 0, 0, 0, 0)).2.2.1, (lGet x (iNat x0.2) (0, 0, 0, 0, 0)).2.2.2.1, (lGet x (iNat x0.2) (0, 0, 0, 0, 0)).2.2.2.2)).2.2.2.2)), (iAdd Go.IntKind.i64 x0.2 1))) ((lRep (lLen x) (0, 0, 0, 0, 0)), 0)).1 := by kernel_rfl
theorem oe_laws_toHeldS (x : List (Int × Int × Int × Int × Int)) : ok_laws_toHeldS x = ((((0 : Int) ≤ (lLen x)) ∧ (roomy ((Int.toNat (lLen x)) * 5))) ∧ (LoopOk (fun (x0 : ((List (Int × (Int × (Int × (Int × Int))))) × Int)) => (iLt x0.2 (lLen x))) (fun (x0 : ((List (Int × (Int × (Int × (Int × Int))))) × Int)) => ((lSet x0.1 (iNat x0.2) ((v_laws_toHeld ((lGet x (iNat x0.2) (0, 0, 0, 0, 0)).1, (lGet x (iNat x0.2) (0, 0, 0, 0, 0)).2.1, (lGet x (iNat x0.2) (0, 0, 0, 0, 0)).2.2.1, (lGet x (iNat x0.2) (0, 0, 0, 0, 0)).2.2.2.1, (lGet x (iNat x0.2) (0, 0, 0, 0, 0)).2.2.2.2)).1, (v_laws_toHeld ((lGet x (iNat x0.2) (0, 0, 0, 0, 0)).1, (lGet x (iNat x0.2) (0, 0, 0, 0, 0)).2.1, (lGet x (iNat x0.2) (0, 0, 0, 0, 0)).2.2.1, (lGet x (iNat x0.2) (0, 0, 0, 0, 0)).2.2.2.1, (lGet x (iNat x0.2) (0, 0, 0, 0, 0)).2.2.2.2)).2.1, (v_laws_toHeld ((lGet x (iNat x0.2) (0, 0, 0, 0, 0)).1, (lGet x (iNat x0.2) (0, 0, 0, 0, 0)).2.1, (lGet x (iNat x0.2) (0, 0, 0, 0, 0)).2.2.1, (lGet x (iNat x0.2) (0, 0, 0, 0, 0)).2.2.2.1, (lGet x (iNat x0.2) (0, 0, 0, 0, 0)).2.2.2.2)).2.2.1, (v_laws_toHeld ((lGet x (iNat x0.2) (0, 0, 0, 0, 0)).1, (lGet x (iNat x0.2) (0, 0, 0, 0, 0)).2.1, (lGet x (iNat x0.2) (0, 0, 0, 0, 0)).2.2.1, (lGet x (iNat x0.2) (0, 0, 0, 0, 0)).2.2.2.1, (lGet x (iNat x0.2) (0, 0, 0, 0, 0)).2.2.2.2)).2.2.2.1, (v_laws_toHeld ((lGet x (iNat x0.2) (0, 0, 0, 0, 0)).1, (lGet x (iNat x0.2) (0, 0, 0, 0, 0)).2.1, (lGet x (iNat x0.2) (0, 0, 0, 0, 0)).2.2.1, (lGet x (iNat x0.2) (0, 0, 0, 0, 0)).2.2.2.1, (lGet x (iNat x0.2) (0, 0, 0, 0, 0)).2.2.2.2)).2.2.2.2)), (iAdd Go.IntKind.i64 x0.2 1))) (fun (x0 : ((List (Int × (Int × (Int × (Int × Int))))) × Int)) => (((iLt x0.2 (lLen x)) = true → ((((0 : Int) ≤ x0.2) ∧ (x0.2 < (((List.length x) : Int)))) ∧ (((iNat x0.2) < (List.length x)) ∧ ((ok_laws_toHeld ((lGet x (iNat x0.2) (0, 0, 0, 0, 0)).1, (lGet x (iNat x0.2) (0, 0, 0, 0, 0)).2.1, (lGet x (iNat x0.2) (0, 0, 0, 0, 0)).2.2.1, (lGet x (iNat x0.2) (0, 0, 0, 0, 0)).2.2.2.1, (lGet x (iNat x0.2) (0, 0, 0, 0, 0)).2.2.2.2)) ∧ ((((0 : Int) ≤ x0.2) ∧ (x0.2 < (((List.length x0.1) : Int)))) ∧ ((iNat x0.2) < (List.length x0.1))))))) ∧ ((iLt x0.2 (lLen x)) = false → True))) ((lRep (lLen x) (0, 0, 0, 0, 0)), 0))) := by kernel_rfl
theorem ve_laws_eqHeld (x : (Int × Int × Int × Int × Int) × (Int × Int × Int × Int × Int)) : v_laws_eqHeld x = (bAnd (bNot (iNe x.1.1 x.2.1)) (bNot (bNot (v_laws_eqAction ((x.1.2.1, x.1.2.2.1, x.1.2.2.2.1, x.1.2.2.2.2), x.2.2.1, x.2.2.2.1, x.2.2.2.2.1, x.2.2.2.2.2))))) := by kernel_rfl
theorem oe_laws_eqHeld (x : (Int × Int × Int × Int × Int) × (Int × Int × Int × Int × Int)) : ok_laws_eqHeld x = (((iNe x.1.1 x.2.1) = true → True) ∧ ((iNe x.1.1 x.2.1) = false → (ok_laws_eqAction ((x.1.2.1, x.1.2.2.1, x.1.2.2.2.1, x.1.2.2.2.2), x.2.2.1, x.2.2.2.1, x.2.2.2.2.1, x.2.2.2.2.2)))) := by kernel_rfl
theorem ve_laws_eqHeldS (x : (List (Int × Int × Int × Int × Int)) × (List (Int × Int × Int × Int × Int))) : v_laws_eqHeldS x = (bAnd (bNot (iNe (lLen x.1) (lLen x.2))) (bNot (iLt (loopV (fun (x0 : Int) => (bAnd (iLt x0 (lLen x.1)) (bNot (bNot (v_laws_eqHeld (((lGet x.1 (iNat x0) (0, 0, 0, 0, 0)).1, (lGet x.1 (iNat x0) (0, 0, 0, 0, 0)).2.1, (lGet x.1 (iNat x0) (0, 0, 0, 0, 0)).2.2.1, (lGet x.1 (iNat x0) (0, 0, 0, 0, 0)).2.2.2.1, (lGet x.1 (iNat x0) (0, 0, 0, 0, 0)).2.2.2.2), (lGet x.2 (iNat x0) (0, 0, 0, 0, 0)).1, (lGet x.2 (iNat x0) (0, 0, 0, 0, 0)).2.1, (lGet x.2 (iNat x0) (0, 0, 0, 0, 0)).2.2.1, (lGet x.2 (iNat x0) (0, 0, 0, 0, 0)).2.2.2.1, (lGet x.2 (iNat x0) (0, 0, 0, 0, 0)).2.2.2.2)))))) (fun (x0 : Int) => (iAdd Go.IntKind.i64 x0 1)) 0) (lLen x.1)))) := by kernel_rfl
theorem oe_laws_eqHeldS (x : (List (Int × Int × Int × Int × Int)) × (List (Int × Int × Int × Int × Int))) : ok_laws_eqHeldS x = (((iNe (lLen x.1) (lLen x.2)) = true → True) ∧ ((iNe (lLen x.1) (lLen x.2)) = false → (LoopOk (fun (x0 : Int) => (bAnd (iLt x0 (lLen x.1)) (bNot (bNot (v_laws_eqHeld (((lGet x.1 (iNat x0) (0, 0, 0, 0, 0)).1, (lGet x.1 (iNat x0) (0, 0, 0, 0, 0)).2.1, (lGet x.1 (iNat x0) (0, 0, 0, 0, 0)).2.2.1, (lGet x.1 (iNat x0) (0, 0, 0, 0, 0)).2.2.2.1, (lGet x.1 (iNat x0) (0, 0, 0, 0, 0)).2.2.2.2), (lGet x.2 (iNat x0) (0, 0, 0, 0, 0)).1, (lGet x.2 (iNat x0) (0, 0, 0, 0, 0)).2.1, (lGet x.2 (iNat x0) (0, 0, 0, 0, 0)).2.2.1, (lGet x.2 (iNat x0) (0, 0, 0, 0, 0)).2.2.2.1, (lGet x.2 (iNat x0) (0, 0, 0, 0, 0)).2.2.2.2)))))) (fun (x0 : Int) => (iAdd Go.IntKind.i64 x0 1)) (fun (x0 : Int) => (((iLt x0 (lLen x.1)) = true → ((((0 : Int) ≤ x0) ∧ (x0 < (((List.length x.1) : Int)))) ∧ (((iNat x0) < (List.length x.1)) ∧ ((((0 : Int) ≤ x0) ∧ (x0 < (((List.length x.2) : Int)))) ∧ (((iNat x0) < (List.length x.2)) ∧ (ok_laws_eqHeld (((lGet x.1 (iNat x0) (0, 0, 0, 0, 0)).1, (lGet x.1 (iNat x0) (0, 0, 0, 0, 0)).2.1, (lGet x.1 (iNat x0) (0, 0, 0, 0, 0)).2.2.1, (lGet x.1 (iNat x0) (0, 0, 0, 0, 0)).2.2.2.1, (lGet x.1 (iNat x0) (0, 0, 0, 0, 0)).2.2.2.2), (lGet x.2 (iNat x0) (0, 0, 0, 0, 0)).1, (lGet x.2 (iNat x0) (0, 0, 0, 0, 0)).2.1, (lGet x.2 (iNat x0) (0, 0, 0, 0, 0)).2.2.1, (lGet x.2 (iNat x0) (0, 0, 0, 0, 0)).2.2.2.1, (lGet x.2 (iNat x0) (0, 0, 0, 0, 0)).2.2.2.2))))))) ∧ ((iLt x0 (lLen x.1)) = false → True))) 0))) := by kernel_rfl
end
def sm_Action (_ : Int × Int × Int × Int) : Prop := True
def wl_Action (_ : Int × Int × Int × Int) : Prop := True
theorem eq_Action (a b : Int × Int × Int × Int) (h : sm_Action a) : ok_laws_eqAction (a, b) ∧ (v_laws_eqAction (a, b) = true ↔ a = b) := by
  obtain ⟨a0, a1, a2, a3⟩ := a
  obtain ⟨b0, b1, b2, b3⟩ := b
  rw [oe_laws_eqAction, ve_laws_eqAction]
  refine ⟨by simp, ?_⟩
  simp only [bNot_eq, bAnd_eq, bIff_eq, iNe_eq, Bool.and_eq_true, Bool.not_not, decide_eq_true_eq, Prod.mk.injEq, beq_iff_eq]
  try (constructor <;> intro h <;> simp_all)
def sm_Held (x : Int × Int × Int × Int × Int) : Prop := sm_Action (x.2.1, x.2.2.1, x.2.2.2.1, x.2.2.2.2) ∧ True
def wl_Held (x : Int × Int × Int × Int × Int) : Prop := wl_Action (x.2.1, x.2.2.1, x.2.2.2.1, x.2.2.2.2) ∧ True
def sm_HeldS (x : List (Int × Int × Int × Int × Int)) : Prop := x.length ≤ 1048576 ∧ ∀ a ∈ x, sm_Held a
def wl_HeldS (x : List (Int × Int × Int × Int × Int)) : Prop := x.length ≤ 9223372036854775807 ∧ ∀ a ∈ x, wl_Held a
theorem sz_HeldS (x : List (Int × Int × Int × Int × Int)) (hw : wl_HeldS x) (l : Int) (h0 : 0 ≤ l) (h1 : l ≤ 1048576) : ok_laws_szHeldS (x, l) ∧ (v_laws_szHeldS (x, l) < 0 ∨ (0 ≤ v_laws_szHeldS (x, l) ∧ v_laws_szHeldS (x, l) ≤ l ∧ sm_HeldS x)) := by
  rw [oe_laws_szHeldS, ve_laws_szHeldS]
  have hl : x.length ≤ 9223372036854775807 := hw.1
  have hs : iSub .i64 l (lLen x) = l - x.length := by rw [lLen_eq]; exact iSub_i64 (by unfold In64; omega)
  refine ⟨trivial, ?_⟩
  simp only [hs, iLt_eq, bSel_eq, decide_eq_true_eq]
  split
  · left; omega
  · right; exact ⟨by omega, by omega, ⟨by omega, fun a _ => by simp [sm_Held, sm_Action]⟩⟩
theorem to_Action (x : Int × Int × Int × Int) (h : sm_Action x) : ok_laws_toAction x ∧ v_laws_toAction x = x := by
  rw [oe_laws_toAction, ve_laws_toAction]
  exact ⟨trivial, rfl⟩
theorem to_Held (x : Int × Int × Int × Int × Int) (h : sm_Held x) : ok_laws_toHeld x ∧ v_laws_toHeld x = x := by
  rw [oe_laws_toHeld, ve_laws_toHeld]
  have k0 := to_Action (x.2.1, x.2.2.1, x.2.2.2.1, x.2.2.2.2) (by unfold sm_Held at h; exact h.1)
  refine ⟨k0.1, ?_⟩
  simp only [k0.2]
theorem to_HeldS (x : List (Int × Int × Int × Int × Int)) (h : sm_HeldS x) : ok_laws_toHeldS x ∧ v_laws_toHeldS x = x := by
  rw [oe_laws_toHeldS, ve_laws_toHeldS]
  obtain ⟨h1, h2⟩ := h
  have hY : ∀ i : Nat, i < x.length → ok_laws_toHeld ((x.getD i (0, 0, 0, 0, 0)).1, (x.getD i (0, 0, 0, 0, 0)).2.1, (x.getD i (0, 0, 0, 0, 0)).2.2.1, (x.getD i (0, 0, 0, 0, 0)).2.2.2.1, (x.getD i (0, 0, 0, 0, 0)).2.2.2.2) ∧ v_laws_toHeld ((x.getD i (0, 0, 0, 0, 0)).1, (x.getD i (0, 0, 0, 0, 0)).2.1, (x.getD i (0, 0, 0, 0, 0)).2.2.1, (x.getD i (0, 0, 0, 0, 0)).2.2.2.1, (x.getD i (0, 0, 0, 0, 0)).2.2.2.2) = x.getD i (0, 0, 0, 0, 0) := fun i hi => to_Held _ (h2 _ (getD_mem x i (0, 0, 0, 0, 0) hi))
  refine ⟨⟨⟨by rw [lLen_eq]; omega, roomy_of (by rw [lLen_eq]; omega) (by rw [lLen_eq]; omega) (by omega)⟩, copyg_ok x (0, 0, 0, 0, 0) (0, 0, 0, 0, 0) h1 (fun _ => rfl) (fun l i hi => by simp only [lSet_eq, lGet_eq, iNat_eq, Int.toNat_natCast]; rw [(hY i hi).2]) (fun l i hl hi => ?_)⟩, copyg_v x (0, 0, 0, 0, 0) (0, 0, 0, 0, 0) h1 (fun _ => rfl) (fun l i hi => by simp only [lSet_eq, lGet_eq, iNat_eq, Int.toNat_natCast]; rw [(hY i hi).2])⟩
  simp only [iLt_eq, lLen_eq, iNat_eq, lGet_eq, decide_eq_true_eq, Int.toNat_natCast]
  exact ⟨fun hh => ⟨by omega, by omega, (hY i (by omega)).1, by omega, by omega⟩, fun _ => trivial⟩
theorem eq_Held (a b : Int × Int × Int × Int × Int) (h : sm_Held a) : ok_laws_eqHeld (a, b) ∧ (v_laws_eqHeld (a, b) = true ↔ a = b) := by
  obtain ⟨a0, a1, a2, a3, a4⟩ := a
  obtain ⟨b0, b1, b2, b3, b4⟩ := b
  have k0 := eq_Action (a1, a2, a3, a4) (b1, b2, b3, b4) (by unfold sm_Held at h; exact h.1)
  rw [oe_laws_eqHeld, ve_laws_eqHeld]
  refine ⟨by simp [k0.1, k0.2], ?_⟩
  simp only [k0.1, k0.2, bNot_eq, bAnd_eq, bIff_eq, iNe_eq, Bool.and_eq_true, Bool.not_not, decide_eq_true_eq, Prod.mk.injEq, beq_iff_eq]
  try (constructor <;> intro h <;> simp_all)
theorem eq_HeldS (a b : List (Int × Int × Int × Int × Int)) (h : sm_HeldS a) : ok_laws_eqHeldS (a, b) ∧ (v_laws_eqHeldS (a, b) = true ↔ a = b) := by
  rw [oe_laws_eqHeldS, ve_laws_eqHeldS]
  obtain ⟨h1, h2⟩ := h
  have hY : ∀ i : Nat, i < a.length → ok_laws_eqHeld (((lGet a i (0, 0, 0, 0, 0)).1, (lGet a i (0, 0, 0, 0, 0)).2.1, (lGet a i (0, 0, 0, 0, 0)).2.2.1, (lGet a i (0, 0, 0, 0, 0)).2.2.2.1, (lGet a i (0, 0, 0, 0, 0)).2.2.2.2), ((lGet b i (0, 0, 0, 0, 0)).1, (lGet b i (0, 0, 0, 0, 0)).2.1, (lGet b i (0, 0, 0, 0, 0)).2.2.1, (lGet b i (0, 0, 0, 0, 0)).2.2.2.1, (lGet b i (0, 0, 0, 0, 0)).2.2.2.2)) ∧ (v_laws_eqHeld (((lGet a i (0, 0, 0, 0, 0)).1, (lGet a i (0, 0, 0, 0, 0)).2.1, (lGet a i (0, 0, 0, 0, 0)).2.2.1, (lGet a i (0, 0, 0, 0, 0)).2.2.2.1, (lGet a i (0, 0, 0, 0, 0)).2.2.2.2), ((lGet b i (0, 0, 0, 0, 0)).1, (lGet b i (0, 0, 0, 0, 0)).2.1, (lGet b i (0, 0, 0, 0, 0)).2.2.1, (lGet b i (0, 0, 0, 0, 0)).2.2.2.1, (lGet b i (0, 0, 0, 0, 0)).2.2.2.2)) = true ↔ a.getD i (0, 0, 0, 0, 0) = b.getD i (0, 0, 0, 0, 0)) := fun i hi => by
    have := eq_Held (a.getD i (0, 0, 0, 0, 0)) (b.getD i (0, 0, 0, 0, 0)) (h2 _ (getD_mem a i (0, 0, 0, 0, 0) hi))
    rw [lGet_eq, lGet_eq]; exact this
  by_cases hl : a.length = b.length
  · refine ⟨⟨fun _ => trivial, fun _ => eq_ok a b (0, 0, 0, 0, 0) (fun i => bNot (v_laws_eqHeld (((lGet a i (0, 0, 0, 0, 0)).1, (lGet a i (0, 0, 0, 0, 0)).2.1, (lGet a i (0, 0, 0, 0, 0)).2.2.1, (lGet a i (0, 0, 0, 0, 0)).2.2.2.1, (lGet a i (0, 0, 0, 0, 0)).2.2.2.2), ((lGet b i (0, 0, 0, 0, 0)).1, (lGet b i (0, 0, 0, 0, 0)).2.1, (lGet b i (0, 0, 0, 0, 0)).2.2.1, (lGet b i (0, 0, 0, 0, 0)).2.2.2.1, (lGet b i (0, 0, 0, 0, 0)).2.2.2.2)))) hl (fun i hi => by simp only [bNot_eq, Bool.not_eq_false', (hY i hi).2]) (by omega) (fun i hi => by simp only [bAnd_eq, iLt_eq, lLen_eq, iNat_eq, bNot_eq, Int.toNat_natCast, Int.ofNat_lt]) (fun i hi => rfl) (fun i hi => ?_)⟩, ?_⟩
    · simp only [iLt_eq, lLen_eq, iNat_eq, decide_eq_true_eq, Int.toNat_natCast]
      exact ⟨fun hh => ⟨by omega, by omega, by omega, by omega, (hY i (by omega)).1⟩, fun _ => trivial⟩
    · have hv := eq_v (c := fun i : Int => bAnd (iLt i (lLen a)) (bNot ((fun i => bNot (v_laws_eqHeld (((lGet a i (0, 0, 0, 0, 0)).1, (lGet a i (0, 0, 0, 0, 0)).2.1, (lGet a i (0, 0, 0, 0, 0)).2.2.1, (lGet a i (0, 0, 0, 0, 0)).2.2.2.1, (lGet a i (0, 0, 0, 0, 0)).2.2.2.2), ((lGet b i (0, 0, 0, 0, 0)).1, (lGet b i (0, 0, 0, 0, 0)).2.1, (lGet b i (0, 0, 0, 0, 0)).2.2.1, (lGet b i (0, 0, 0, 0, 0)).2.2.2.1, (lGet b i (0, 0, 0, 0, 0)).2.2.2.2)))) i.toNat))) (f := fun i => iAdd .i64 i 1) a b (0, 0, 0, 0, 0) (fun i => bNot (v_laws_eqHeld (((lGet a i (0, 0, 0, 0, 0)).1, (lGet a i (0, 0, 0, 0, 0)).2.1, (lGet a i (0, 0, 0, 0, 0)).2.2.1, (lGet a i (0, 0, 0, 0, 0)).2.2.2.1, (lGet a i (0, 0, 0, 0, 0)).2.2.2.2), ((lGet b i (0, 0, 0, 0, 0)).1, (lGet b i (0, 0, 0, 0, 0)).2.1, (lGet b i (0, 0, 0, 0, 0)).2.2.1, (lGet b i (0, 0, 0, 0, 0)).2.2.2.1, (lGet b i (0, 0, 0, 0, 0)).2.2.2.2)))) hl (fun i hi => by simp only [bNot_eq, Bool.not_eq_false', (hY i hi).2]) (by omega) (fun i hi => by simp only [bAnd_eq, iLt_eq, lLen_eq, bNot_eq, Int.toNat_natCast, Int.ofNat_lt]) (fun i hi => rfl)
      have e1 : bNot (iNe (lLen a) (lLen b)) = true := by rw [bNot_eq, iNe_eq, lLen_eq, lLen_eq, hl]; simp
      rw [e1, bAnd_eq true, Bool.true_and, bNot_eq (iLt _ (lLen a)), iLt_eq _ (lLen a)]
      simp only [← iNat_eq, lLen_eq] at hv ⊢
      simp only [Bool.not_eq_true', decide_eq_false_iff_not]
      rw [hv]; simp
  · have e1 : bNot (iNe (lLen a) (lLen b)) = false := by rw [bNot_eq, iNe_eq, lLen_eq, lLen_eq]; simp; omega
    refine ⟨⟨fun _ => trivial, fun h => ?_⟩, ?_⟩
    · rw [bNot_eq] at e1; rw [h] at e1; cases e1
    · rw [e1, bAnd_eq, Bool.false_and]; constructor
      · intro h; cases h
      · intro e; subst e; exact absurd rfl hl
section
set_option maxRecDepth 8000
noncomputable def dc_laws_szActionS : DCode :=
  (.seq [1, 0] (.region [oi 0 4 0])
  (.seq [1] (.region [om 0 5 1,
 on 1 6 0,
 oa 2 7 (.len (.t 6)),
 oa 3 8 (.bin .sub (.t 5) (.t 7)),
 om 4 1 8])
  (.seq [1] (.seq [10, 1] (.region [om 0 9 1,
 oa 1 10 (.bin .lss (.t 9) (.c (.int .i64 0)))])
  (.cond (.t 10) (.seq [4] (.region [oi 0 4 (-1)])
  .ret) .skip))
  (.seq [4] (.region [om 0 11 1,
 om 1 4 11])
  .ret))))
noncomputable def df_laws_szActionS : DFun := ⟨2, 12, 0, true, [.tmp 4], dc_laws_szActionS⟩
noncomputable def pf_laws_szActionS : PFun := df_laws_szActionS.er
noncomputable def f_laws_szActionS : AFun := pf_laws_szActionS.er
@[irreducible] noncomputable def s_laws_szActionS : CallSem := funSem f_laws_szActionS
@[irreducible] noncomputable def p_laws_szActionS : PSem := pfunSem pf_laws_szActionS
theorem sp_laws_szActionS : SoundP s_laws_szActionS p_laws_szActionS := by unfold s_laws_szActionS p_laws_szActionS; exact pfun_sound (f := pf_laws_szActionS) trivial
def h_laws_szActionS : List HT := [.one .frz (.sl (.cons (.int .i64) (.cons (.int .i64) (.cons (.int .i64) (.one (.int .i64)))))), .one .frz (.int .i64)]
def q_laws_szActionS : QT := .one (.one .own (.int .i64))
@[irreducible] noncomputable def v_laws_szActionS (x : (List (Int × Int × Int × Int)) × Int) : Int := fnV df_laws_szActionS h_laws_szActionS q_laws_szActionS x
@[irreducible] noncomputable def ok_laws_szActionS (x : (List (Int × Int × Int × Int)) × Int) : Prop := fnOk df_laws_szActionS h_laws_szActionS q_laws_szActionS x
noncomputable def D_laws_szActionS : DSem := DSemOf h_laws_szActionS q_laws_szActionS ok_laws_szActionS v_laws_szActionS
theorem ck_laws_szActionS (x : (List (Int × Int × Int × Int)) × Int) : fnChk df_laws_szActionS h_laws_szActionS q_laws_szActionS x = true := by kernel_rfl
theorem ob_laws_szActionS : AllD df_laws_szActionS.body.obs := trivial
theorem st_laws_szActionS : fnSt df_laws_szActionS h_laws_szActionS q_laws_szActionS = true := by kernel_rfl
theorem sd_laws_szActionS : SoundD p_laws_szActionS D_laws_szActionS := by unfold p_laws_szActionS; exact soundD_of (f := df_laws_szActionS) (hs := h_laws_szActionS) (q := q_laws_szActionS) ob_laws_szActionS st_laws_szActionS ck_laws_szActionS (fun x h => by unfold ok_laws_szActionS at h; exact h) (fun x => by unfold v_laws_szActionS; rfl)
noncomputable def dc_laws_szActionSS : DCode :=
  (.seq [1, 0] (.region [oi 0 4 0])
  (.seq [1, 0] (.region [om 0 6 1,
 on 1 7 0,
 oa 2 8 (.len (.t 7)),
 oa 3 9 (.bin .sub (.t 6) (.t 8)),
 om 4 1 9])
  (.seq [1, 0] (.seq [11, 1, 0] (.region [om 0 10 1,
 oa 1 11 (.bin .lss (.t 10) (.c (.int .i64 0)))])
  (.cond (.t 11) (.seq [4] (.region [oi 0 4 (-1)])
  .ret) .skip))
  (.seq [1] (.seq [5, 1, 0] (.region [oi 0 5 0])
  (.block 0 (.loop [0, 1, 5] 1 (.seq [5, 1, 0] (.seq [15, 5, 1, 0] (.region [om 0 12 5,
 on 1 13 0,
 oa 2 14 (.len (.t 13)),
 oa 3 15 (.bin .lss (.t 12) (.t 14))])
  (.cond (.t 15) .skip (.exit 0)))
  (.seq [5, 1, 0] (.block 1 (.seq [5, 1, 0] (.region [on 0 18 0,
 om 1 19 5,
 oa 2 20 (.indexA 1 (.t 18) (.t 19)),
 oa 3 21 (.loadH none (.t 20)),
 om 4 22 1,
 oc 5 23 s_laws_szActionS p_laws_szActionS D_laws_szActionS [(.t 21), (.t 22)],
 om 6 1 23])
  (.seq [25, 5, 1, 0] (.region [om 0 24 1,
 oa 1 25 (.bin .lss (.t 24) (.c (.int .i64 0)))])
  (.cond (.t 25) (.seq [4] (.region [oi 0 4 (-1)])
  .ret) .skip))))
  (.region [om 0 16 5,
 oa 1 17 (.bin .add (.t 16) (.c (.int .i64 1))),
 om 2 5 17]))))))
  (.seq [4] (.region [om 0 26 1,
 om 1 4 26])
  .ret)))))
noncomputable def df_laws_szActionSS : DFun := ⟨2, 27, 0, true, [.tmp 4], dc_laws_szActionSS⟩
noncomputable def pf_laws_szActionSS : PFun := df_laws_szActionSS.er
noncomputable def f_laws_szActionSS : AFun := pf_laws_szActionSS.er
@[irreducible] noncomputable def s_laws_szActionSS : CallSem := funSem f_laws_szActionSS
@[irreducible] noncomputable def p_laws_szActionSS : PSem := pfunSem pf_laws_szActionSS
theorem sp_laws_szActionSS : SoundP s_laws_szActionSS p_laws_szActionSS := by unfold s_laws_szActionSS p_laws_szActionSS; exact pfun_sound (f := pf_laws_szActionSS) ⟨sp_laws_szActionS, trivial⟩
def h_laws_szActionSS : List HT := [.one .frz (.sl (.one (.sl (.cons (.int .i64) (.cons (.int .i64) (.cons (.int .i64) (.one (.int .i64)))))))), .one .frz (.int .i64)]
def q_laws_szActionSS : QT := .one (.one .own (.int .i64))
@[irreducible] noncomputable def v_laws_szActionSS (x : (List (List (Int × Int × Int × Int))) × Int) : Int := fnV df_laws_szActionSS h_laws_szActionSS q_laws_szActionSS x
@[irreducible] noncomputable def ok_laws_szActionSS (x : (List (List (Int × Int × Int × Int))) × Int) : Prop := fnOk df_laws_szActionSS h_laws_szActionSS q_laws_szActionSS x
noncomputable def D_laws_szActionSS : DSem := DSemOf h_laws_szActionSS q_laws_szActionSS ok_laws_szActionSS v_laws_szActionSS
theorem ck_laws_szActionSS (x : (List (List (Int × Int × Int × Int))) × Int) : fnChk df_laws_szActionSS h_laws_szActionSS q_laws_szActionSS x = true := by kernel_rfl
theorem ob_laws_szActionSS : AllD df_laws_szActionSS.body.obs := ⟨sd_laws_szActionS, trivial⟩
theorem st_laws_szActionSS : fnSt df_laws_szActionSS h_laws_szActionSS q_laws_szActionSS = true := by kernel_rfl
theorem sd_laws_szActionSS : SoundD p_laws_szActionSS D_laws_szActionSS := by unfold p_laws_szActionSS; exact soundD_of (f := df_laws_szActionSS) (hs := h_laws_szActionSS) (q := q_laws_szActionSS) ob_laws_szActionSS st_laws_szActionSS ck_laws_szActionSS (fun x h => by unfold ok_laws_szActionSS at h; exact h) (fun x => by unfold v_laws_szActionSS; rfl)
noncomputable def dc_laws_szKeymap : DCode :=
  (.seq [2, 1] (.region [oa 0 2 (.boxB 0 2 (.t 0)),
 oi 1 4 0])
  (.seq [1] (.region [oa 0 5 (.fieldA 1 (.t 2)),
 oa 1 6 (.loadB 0 none (.t 5)),
 om 2 7 1,
 oc 3 8 s_laws_szActionSS p_laws_szActionSS D_laws_szActionSS [(.t 6), (.t 7)],
 om 4 1 8])
  (.seq [1] (.seq [10, 1] (.region [om 0 9 1,
 oa 1 10 (.bin .lss (.t 9) (.c (.int .i64 0)))])
  (.cond (.t 10) (.seq [4] (.region [oi 0 4 (-1)])
  .ret) .skip))
  (.seq [4] (.region [om 0 11 1,
 om 1 4 11])
  .ret))))
noncomputable def df_laws_szKeymap : DFun := ⟨2, 12, 1, true, [.tmp 4], dc_laws_szKeymap⟩
noncomputable def pf_laws_szKeymap : PFun := df_laws_szKeymap.er
noncomputable def f_laws_szKeymap : AFun := pf_laws_szKeymap.er
@[irreducible] noncomputable def s_laws_szKeymap : CallSem := funSem f_laws_szKeymap
@[irreducible] noncomputable def p_laws_szKeymap : PSem := pfunSem pf_laws_szKeymap
theorem sp_laws_szKeymap : SoundP s_laws_szKeymap p_laws_szKeymap := by unfold s_laws_szKeymap p_laws_szKeymap; exact pfun_sound (f := pf_laws_szKeymap) ⟨sp_laws_szActionSS, trivial⟩
def h_laws_szKeymap : List HT := [.agg [(.frz, .int .i64), (.frz, .sl (.one (.sl (.cons (.int .i64) (.cons (.int .i64) (.cons (.int .i64) (.one (.int .i64))))))))], .one .frz (.int .i64)]
def q_laws_szKeymap : QT := .one (.one .own (.int .i64))
@[irreducible] noncomputable def v_laws_szKeymap (x : (Int × (List (List (Int × Int × Int × Int)))) × Int) : Int := fnV df_laws_szKeymap h_laws_szKeymap q_laws_szKeymap x
@[irreducible] noncomputable def ok_laws_szKeymap (x : (Int × (List (List (Int × Int × Int × Int)))) × Int) : Prop := fnOk df_laws_szKeymap h_laws_szKeymap q_laws_szKeymap x
noncomputable def D_laws_szKeymap : DSem := DSemOf h_laws_szKeymap q_laws_szKeymap ok_laws_szKeymap v_laws_szKeymap
theorem ck_laws_szKeymap (x : (Int × (List (List (Int × Int × Int × Int)))) × Int) : fnChk df_laws_szKeymap h_laws_szKeymap q_laws_szKeymap x = true := by kernel_rfl
theorem ob_laws_szKeymap : AllD df_laws_szKeymap.body.obs := ⟨sd_laws_szActionSS, trivial⟩
theorem st_laws_szKeymap : fnSt df_laws_szKeymap h_laws_szKeymap q_laws_szKeymap = true := by kernel_rfl
theorem sd_laws_szKeymap : SoundD p_laws_szKeymap D_laws_szKeymap := by unfold p_laws_szKeymap; exact soundD_of (f := df_laws_szKeymap) (hs := h_laws_szKeymap) (q := q_laws_szKeymap) ob_laws_szKeymap st_laws_szKeymap ck_laws_szKeymap (fun x h => by unfold ok_laws_szKeymap at h; exact h) (fun x => by unfold v_laws_szKeymap; rfl)
noncomputable def dc_laws_toActionS : DCode :=
  (.seq [0] (.region [oa 0 2 (.mv (.c .nils))])
  (.seq [3, 0] (.region [on 0 5 0,
 oa 1 6 (.len (.t 5)),
 ⟨2, some 7, .a false (.mkSlice 4 [(.int .i64 0), (.int .i64 0), (.int .i64 0), (.int .i64 0)] (.t 6)) (some (.cons (.int .i64) (.cons (.int .i64) (.cons (.int .i64) (.one (.int .i64)))))), none, []⟩,
 om 3 3 7])
  (.seq [3] (.seq [4, 3, 0] (.region [oi 0 4 0])
  (.block 0 (.loop [0, 3, 4] 1 (.seq [4, 3, 0] (.seq [11, 4, 3, 0] (.region [om 0 8 4,
 on 1 9 0,
 oa 2 10 (.len (.t 9)),
 oa 3 11 (.bin .lss (.t 8) (.t 10))])
  (.cond (.t 11) .skip (.exit 0)))
  (.seq [4, 3, 0] (.block 1 (.region [on 0 14 3,
 om 1 15 4,
 on 2 16 0,
 om 3 17 4,
 oa 4 18 (.indexA 4 (.t 16) (.t 17)),
 oa 5 19 (.loadH (some 4) (.t 18)),
 oc 6 20 s_laws_toAction p_laws_toAction D_laws_toAction [(.t 19)],
 oa 7 21 (.indexA 4 (.t 14) (.t 15)),
 os 8 (.storeH 4 (.t 21) (.t 20))]))
  (.region [om 0 12 4,
 oa 1 13 (.bin .add (.t 12) (.c (.int .i64 1))),
 om 2 4 13]))))))
  (.seq [2] (.region [om 0 22 3,
 om 1 2 22])
  .ret))))
noncomputable def df_laws_toActionS : DFun := ⟨1, 23, 0, false, [.tmp 2], dc_laws_toActionS⟩
noncomputable def pf_laws_toActionS : PFun := df_laws_toActionS.er
noncomputable def f_laws_toActionS : AFun := pf_laws_toActionS.er
@[irreducible] noncomputable def s_laws_toActionS : CallSem := funSem f_laws_toActionS
@[irreducible] noncomputable def p_laws_toActionS : PSem := pfunSem pf_laws_toActionS
theorem sp_laws_toActionS : SoundP s_laws_toActionS p_laws_toActionS := by unfold s_laws_toActionS p_laws_toActionS; exact pfun_sound (f := pf_laws_toActionS) ⟨sp_laws_toAction, trivial⟩
def h_laws_toActionS : List HT := [.one .frz (.sl (.cons (.int .i64) (.cons (.int .i64) (.cons (.int .i64) (.one (.int .i64))))))]
def q_laws_toActionS : QT := .one (.one .own (.sl (.cons (.int .i64) (.cons (.int .i64) (.cons (.int .i64) (.one (.int .i64)))))))
@[irreducible] noncomputable def v_laws_toActionS (x : List (Int × Int × Int × Int)) : List (Int × Int × Int × Int) := fnV df_laws_toActionS h_laws_toActionS q_laws_toActionS x
@[irreducible] noncomputable def ok_laws_toActionS (x : List (Int × Int × Int × Int)) : Prop := fnOk df_laws_toActionS h_laws_toActionS q_laws_toActionS x
noncomputable def D_laws_toActionS : DSem := DSemOf h_laws_toActionS q_laws_toActionS ok_laws_toActionS v_laws_toActionS
theorem ck_laws_toActionS (x : List (Int × Int × Int × Int)) : fnChk df_laws_toActionS h_laws_toActionS q_laws_toActionS x = true := by kernel_rfl
theorem ob_laws_toActionS : AllD df_laws_toActionS.body.obs := ⟨sd_laws_toAction, trivial⟩
theorem st_laws_toActionS : fnSt df_laws_toActionS h_laws_toActionS q_laws_toActionS = true := by kernel_rfl
theorem sd_laws_toActionS : SoundD p_laws_toActionS D_laws_toActionS := by unfold p_laws_toActionS; exact soundD_of (f := df_laws_toActionS) (hs := h_laws_toActionS) (q := q_laws_toActionS) ob_laws_toActionS st_laws_toActionS ck_laws_toActionS (fun x h => by unfold ok_laws_toActionS at h; exact h) (fun x => by unfold v_laws_toActionS; rfl)
noncomputable def dc_laws_toActionSS : DCode :=
  (.seq [0] (.region [oa 0 2 (.mv (.c .nils))])
  (.seq [3, 0] (.region [on 0 5 0,
 oa 1 6 (.len (.t 5)),
 ⟨2, some 7, .a false (.mkSlice 1 [.nils] (.t 6)) (some (.one (.sl (.cons (.int .i64) (.cons (.int .i64) (.cons (.int .i64) (.one (.int .i64)))))))), none, []⟩,
 om 3 3 7])
  (.seq [3] (.seq [4, 3, 0] (.region [oi 0 4 0])
  (.block 0 (.loop [0, 3, 4] 1 (.seq [4, 3, 0] (.seq [11, 4, 3, 0] (.region [om 0 8 4,
 on 1 9 0,
 oa 2 10 (.len (.t 9)),
 oa 3 11 (.bin .lss (.t 8) (.t 10))])
  (.cond (.t 11) .skip (.exit 0)))
  (.seq [4, 3, 0] (.block 1 (.region [on 0 14 3,
 om 1 15 4,
 on 2 16 0,
 om 3 17 4,
 oa 4 18 (.indexA 1 (.t 16) (.t 17)),
 oa 5 19 (.loadH none (.t 18)),
 oc 6 20 s_laws_toActionS p_laws_toActionS D_laws_toActionS [(.t 19)],
 oa 7 21 (.indexA 1 (.t 14) (.t 15)),
 os 8 (.storeH 1 (.t 21) (.t 20))]))
  (.region [om 0 12 4,
 oa 1 13 (.bin .add (.t 12) (.c (.int .i64 1))),
 om 2 4 13]))))))
  (.seq [2] (.region [om 0 22 3,
 om 1 2 22])
  .ret))))
noncomputable def df_laws_toActionSS : DFun := ⟨1, 23, 0, false, [.tmp 2], dc_laws_toActionSS⟩
noncomputable def pf_laws_toActionSS : PFun := df_laws_toActionSS.er
noncomputable def f_laws_toActionSS : AFun := pf_laws_toActionSS.er
@[irreducible] noncomputable def s_laws_toActionSS : CallSem := funSem f_laws_toActionSS
@[irreducible] noncomputable def p_laws_toActionSS : PSem := pfunSem pf_laws_toActionSS
theorem sp_laws_toActionSS : SoundP s_laws_toActionSS p_laws_toActionSS := by unfold s_laws_toActionSS p_laws_toActionSS; exact pfun_sound (f := pf_laws_toActionSS) ⟨sp_laws_toActionS, trivial⟩
def h_laws_toActionSS : List HT := [.one .frz (.sl (.one (.sl (.cons (.int .i64) (.cons (.int .i64) (.cons (.int .i64) (.one (.int .i64))))))))]
def q_laws_toActionSS : QT := .one (.one .own (.sl (.one (.sl (.cons (.int .i64) (.cons (.int .i64) (.cons (.int .i64) (.one (.int .i64)))))))))
@[irreducible] noncomputable def v_laws_toActionSS (x : List (List (Int × Int × Int × Int))) : List (List (Int × Int × Int × Int)) := fnV df_laws_toActionSS h_laws_toActionSS q_laws_toActionSS x
@[irreducible] noncomputable def ok_laws_toActionSS (x : List (List (Int × Int × Int × Int))) : Prop := fnOk df_laws_toActionSS h_laws_toActionSS q_laws_toActionSS x
noncomputable def D_laws_toActionSS : DSem := DSemOf h_laws_toActionSS q_laws_toActionSS ok_laws_toActionSS v_laws_toActionSS
theorem ck_laws_toActionSS (x : List (List (Int × Int × Int × Int))) : fnChk df_laws_toActionSS h_laws_toActionSS q_laws_toActionSS x = true := by kernel_rfl
theorem ob_laws_toActionSS : AllD df_laws_toActionSS.body.obs := ⟨sd_laws_toActionS, trivial⟩
theorem st_laws_toActionSS : fnSt df_laws_toActionSS h_laws_toActionSS q_laws_toActionSS = true := by kernel_rfl
theorem sd_laws_toActionSS : SoundD p_laws_toActionSS D_laws_toActionSS := by unfold p_laws_toActionSS; exact soundD_of (f := df_laws_toActionSS) (hs := h_laws_toActionSS) (q := q_laws_toActionSS) ob_laws_toActionSS st_laws_toActionSS ck_laws_toActionSS (fun x h => by unfold ok_laws_toActionSS at h; exact h) (fun x => by unfold v_laws_toActionSS; rfl)
noncomputable def dc_laws_toKeymap : DCode :=
  (.seq [2, 1] (.region [oa 0 1 (.boxB 0 2 (.t 0)),
 oa 1 2 (.allocB 1 [(.int .i64 0), .nils])])
  (.seq [3, 2, 1] (.region [oa 0 3 (.allocB 2 [(.int .i64 0), .nils])])
  (.seq [3, 2, 1] (.region [oa 0 4 (.fieldA 0 (.t 1)),
 ob 1 5 (.loadB 0 none (.t 4)),
 oa 2 6 (.fieldA 0 (.t 3)),
 os 3 (.storeB 2 1 (.t 6) (.t 5))])
  (.seq [3, 2] (.region [oa 0 7 (.fieldA 1 (.t 1)),
 oa 1 8 (.loadB 0 none (.t 7)),
 oc 2 9 s_laws_toActionSS p_laws_toActionSS D_laws_toActionSS [(.t 8)],
 oa 3 10 (.fieldA 1 (.t 3)),
 os 4 (.storeB 2 1 (.t 10) (.t 9))])
  (.seq [2] (.region [ob 0 11 (.loadB 2 (some 2) (.t 3)),
 os 1 (.storeB 1 2 (.t 2) (.t 11))])
  .ret)))))
noncomputable def df_laws_toKeymap : DFun := ⟨1, 12, 3, false, [.cell 2 (some 2)], dc_laws_toKeymap⟩
noncomputable def pf_laws_toKeymap : PFun := df_laws_toKeymap.er
noncomputable def f_laws_toKeymap : AFun := pf_laws_toKeymap.er
@[irreducible] noncomputable def s_laws_toKeymap : CallSem := funSem f_laws_toKeymap
@[irreducible] noncomputable def p_laws_toKeymap : PSem := pfunSem pf_laws_toKeymap
theorem sp_laws_toKeymap : SoundP s_laws_toKeymap p_laws_toKeymap := by unfold s_laws_toKeymap p_laws_toKeymap; exact pfun_sound (f := pf_laws_toKeymap) ⟨sp_laws_toActionSS, trivial⟩
def h_laws_toKeymap : List HT := [.agg [(.frz, .int .i64), (.frz, .sl (.one (.sl (.cons (.int .i64) (.cons (.int .i64) (.cons (.int .i64) (.one (.int .i64))))))))]]
def q_laws_toKeymap : QT := .one (.agg [(.own, .int .i64), (.own, .sl (.one (.sl (.cons (.int .i64) (.cons (.int .i64) (.cons (.int .i64) (.one (.int .i64))))))))])
@[irreducible] noncomputable def v_laws_toKeymap (x : Int × (List (List (Int × Int × Int × Int)))) : Int × (List (List (Int × Int × Int × Int))) := fnV df_laws_toKeymap h_laws_toKeymap q_laws_toKeymap x
@[irreducible] noncomputable def ok_laws_toKeymap (x : Int × (List (List (Int × Int × Int × Int)))) : Prop := fnOk df_laws_toKeymap h_laws_toKeymap q_laws_toKeymap x
noncomputable def D_laws_toKeymap : DSem := DSemOf h_laws_toKeymap q_laws_toKeymap ok_laws_toKeymap v_laws_toKeymap
theorem ck_laws_toKeymap (x : Int × (List (List (Int × Int × Int × Int)))) : fnChk df_laws_toKeymap h_laws_toKeymap q_laws_toKeymap x = true := by kernel_rfl
theorem ob_laws_toKeymap : AllD df_laws_toKeymap.body.obs := ⟨sd_laws_toActionSS, trivial⟩
theorem st_laws_toKeymap : fnSt df_laws_toKeymap h_laws_toKeymap q_laws_toKeymap = true := by kernel_rfl
theorem sd_laws_toKeymap : SoundD p_laws_toKeymap D_laws_toKeymap := by unfold p_laws_toKeymap; exact soundD_of (f := df_laws_toKeymap) (hs := h_laws_toKeymap) (q := q_laws_toKeymap) ob_laws_toKeymap st_laws_toKeymap ck_laws_toKeymap (fun x h => by unfold ok_laws_toKeymap at h; exact h) (fun x => by unfold v_laws_toKeymap; rfl)
noncomputable def dc_laws_eqActionS : DCode :=
  (.seq [1, 0] (.region [oa 0 4 (.mv (.c (.bool false)))])
  (.seq [1, 0] (.seq [10, 1, 0] (.region [on 0 6 0,
 oa 1 7 (.len (.t 6)),
 on 2 8 1,
 oa 3 9 (.len (.t 8)),
 oa 4 10 (.bin .neq (.t 7) (.t 9))])
  (.cond (.t 10) (.seq [4] (.region [oa 0 4 (.mv (.c (.bool false)))])
  .ret) .skip))
  (.seq [] (.seq [5, 1, 0] (.region [oi 0 5 0])
  (.block 0 (.loop [0, 1, 5] 1 (.seq [5, 1, 0] (.seq [14, 5, 1, 0] (.region [om 0 11 5,
 on 1 12 0,
 oa 2 13 (.len (.t 12)),
 oa 3 14 (.bin .lss (.t 11) (.t 13))])
  (.cond (.t 14) .skip (.exit 0)))
  (.seq [5, 1, 0] (.block 1 (.seq [26, 5, 1, 0] (.region [on 0 17 0,
 om 1 18 5,
 xA 2 19 (.indexA 4 (.t 17) (.t 18)) (rg 2),
 xA 3 20 (.loadH (some 4) (.t 19)) (rg 3),
 on 4 21 1,
 om 5 22 5,
 xA 6 23 (.indexA 4 (.t 21) (.t 22)) [4, 5],
 xA 7 24 (.loadH (some 4) (.t 23)) [4, 5, 6],
 xC 8 25 s_laws_eqAction p_laws_eqAction D_laws_eqAction [(.t 20), (.t 24)] (rg 8),
 xA 9 26 (.un .not (.t 25)) (rg 9)])
  (.cond (.t 26) (.seq [4] (.region [oa 0 4 (.mv (.c (.bool false)))])
  .ret) .skip)))
  (.region [om 0 15 5,
 oa 1 16 (.bin .add (.t 15) (.c (.int .i64 1))),
 om 2 5 16]))))))
  (.seq [4] (.region [oa 0 4 (.mv (.c (.bool true)))])
  .ret))))
noncomputable def df_laws_eqActionS : DFun := ⟨2, 27, 0, true, [.tmp 4], dc_laws_eqActionS⟩
noncomputable def pf_laws_eqActionS : PFun := df_laws_eqActionS.er
noncomputable def f_laws_eqActionS : AFun := pf_laws_eqActionS.er
@[irreducible] noncomputable def s_laws_eqActionS : CallSem := funSem f_laws_eqActionS
@[irreducible] noncomputable def p_laws_eqActionS : PSem := pfunSem pf_laws_eqActionS
theorem sp_laws_eqActionS : SoundP s_laws_eqActionS p_laws_eqActionS := by unfold s_laws_eqActionS p_laws_eqActionS; exact pfun_sound (f := pf_laws_eqActionS) ⟨sp_laws_eqAction, trivial⟩
def h_laws_eqActionS : List HT := [.one .frz (.sl (.cons (.int .i64) (.cons (.int .i64) (.cons (.int .i64) (.one (.int .i64)))))), .one .frz (.sl (.cons (.int .i64) (.cons (.int .i64) (.cons (.int .i64) (.one (.int .i64))))))]
def q_laws_eqActionS : QT := .one (.one .own (.bool))
@[irreducible] noncomputable def v_laws_eqActionS (x : (List (Int × Int × Int × Int)) × (List (Int × Int × Int × Int))) : Bool := fnV df_laws_eqActionS h_laws_eqActionS q_laws_eqActionS x
@[irreducible] noncomputable def ok_laws_eqActionS (x : (List (Int × Int × Int × Int)) × (List (Int × Int × Int × Int))) : Prop := fnOk df_laws_eqActionS h_laws_eqActionS q_laws_eqActionS x
noncomputable def D_laws_eqActionS : DSem := DSemOf h_laws_eqActionS q_laws_eqActionS ok_laws_eqActionS v_laws_eqActionS
theorem ck_laws_eqActionS (x : (List (Int × Int × Int × Int)) × (List (Int × Int × Int × Int))) : fnChk df_laws_eqActionS h_laws_eqActionS q_laws_eqActionS x = true := by kernel_rfl
theorem ob_laws_eqActionS : AllD df_laws_eqActionS.body.obs := ⟨sd_laws_eqAction, trivial⟩
theorem st_laws_eqActionS : fnSt df_laws_eqActionS h_laws_eqActionS q_laws_eqActionS = true := by kernel_rfl
theorem sd_laws_eqActionS : SoundD p_laws_eqActionS D_laws_eqActionS := by unfold p_laws_eqActionS; exact soundD_of (f := df_laws_eqActionS) (hs := h_laws_eqActionS) (q := q_laws_eqActionS) ob_laws_eqActionS st_laws_eqActionS ck_laws_eqActionS (fun x h => by unfold ok_laws_eqActionS at h; exact h) (fun x => by unfold v_laws_eqActionS; rfl)
noncomputable def dc_laws_eqActionSS : DCode :=
  (.seq [1, 0] (.region [oa 0 4 (.mv (.c (.bool false)))])
  (.seq [1, 0] (.seq [10, 1, 0] (.region [on 0 6 0,
 oa 1 7 (.len (.t 6)),
 on 2 8 1,
 oa 3 9 (.len (.t 8)),
 oa 4 10 (.bin .neq (.t 7) (.t 9))])
  (.cond (.t 10) (.seq [4] (.region [oa 0 4 (.mv (.c (.bool false)))])
  .ret) .skip))
  (.seq [] (.seq [5, 1, 0] (.region [oi 0 5 0])
  (.block 0 (.loop [0, 1, 5] 1 (.seq [5, 1, 0] (.seq [14, 5, 1, 0] (.region [om 0 11 5,
 on 1 12 0,
 oa 2 13 (.len (.t 12)),
 oa 3 14 (.bin .lss (.t 11) (.t 13))])
  (.cond (.t 14) .skip (.exit 0)))
  (.seq [5, 1, 0] (.block 1 (.seq [26, 5, 1, 0] (.region [on 0 17 0,
 om 1 18 5,
 xA 2 19 (.indexA 1 (.t 17) (.t 18)) (rg 2),
 xA 3 20 (.loadH none (.t 19)) (rg 3),
 on 4 21 1,
 om 5 22 5,
 xA 6 23 (.indexA 1 (.t 21) (.t 22)) [4, 5],
 xA 7 24 (.loadH none (.t 23)) [4, 5, 6],
 xC 8 25 s_laws_eqActionS p_laws_eqActionS D_laws_eqActionS [(.t 20), (.t 24)] (rg 8),
 xA 9 26 (.un .not (.t 25)) (rg 9)])
  (.cond (.t 26) (.seq [4] (.region [oa 0 4 (.mv (.c (.bool false)))])
  .ret) .skip)))
  (.region [om 0 15 5,
 oa 1 16 (.bin .add (.t 15) (.c (.int .i64 1))),
 om 2 5 16]))))))
  (.seq [4] (.region [oa 0 4 (.mv (.c (.bool true)))])
  .ret))))
noncomputable def df_laws_eqActionSS : DFun := ⟨2, 27, 0, true, [.tmp 4], dc_laws_eqActionSS⟩
noncomputable def pf_laws_eqActionSS : PFun := df_laws_eqActionSS.er
noncomputable def f_laws_eqActionSS : AFun := pf_laws_eqActionSS.er
@[irreducible] noncomputable def s_laws_eqActionSS : CallSem := funSem f_laws_eqActionSS
@[irreducible] noncomputable def p_laws_eqActionSS : PSem := pfunSem pf_laws_eqActionSS
theorem sp_laws_eqActionSS : SoundP s_laws_eqActionSS p_laws_eqActionSS := by unfold s_laws_eqActionSS p_laws_eqActionSS; exact pfun_sound (f := pf_laws_eqActionSS) ⟨sp_laws_eqActionS, trivial⟩
def h_laws_eqActionSS : List HT := [.one .frz (.sl (.one (.sl (.cons (.int .i64) (.cons (.int .i64) (.cons (.int .i64) (.one (.int .i64)))))))), .one .frz (.sl (.one (.sl (.cons (.int .i64) (.cons (.int .i64) (.cons (.int .i64) (.one (.int .i64))))))))]
def q_laws_eqActionSS : QT := .one (.one .own (.bool))
@[irreducible] noncomputable def v_laws_eqActionSS (x : (List (List (Int × Int × Int × Int))) × (List (List (Int × Int × Int × Int)))) : Bool := fnV df_laws_eqActionSS h_laws_eqActionSS q_laws_eqActionSS x
@[irreducible] noncomputable def ok_laws_eqActionSS (x : (List (List (Int × Int × Int × Int))) × (List (List (Int × Int × Int × Int)))) : Prop := fnOk df_laws_eqActionSS h_laws_eqActionSS q_laws_eqActionSS x
noncomputable def D_laws_eqActionSS : DSem := DSemOf h_laws_eqActionSS q_laws_eqActionSS ok_laws_eqActionSS v_laws_eqActionSS
theorem ck_laws_eqActionSS (x : (List (List (Int × Int × Int × Int))) × (List (List (Int × Int × Int × Int)))) : fnChk df_laws_eqActionSS h_laws_eqActionSS q_laws_eqActionSS x = true := by kernel_rfl
theorem ob_laws_eqActionSS : AllD df_laws_eqActionSS.body.obs := ⟨sd_laws_eqActionS, trivial⟩
theorem st_laws_eqActionSS : fnSt df_laws_eqActionSS h_laws_eqActionSS q_laws_eqActionSS = true := by kernel_rfl
theorem sd_laws_eqActionSS : SoundD p_laws_eqActionSS D_laws_eqActionSS := by unfold p_laws_eqActionSS; exact soundD_of (f := df_laws_eqActionSS) (hs := h_laws_eqActionSS) (q := q_laws_eqActionSS) ob_laws_eqActionSS st_laws_eqActionSS ck_laws_eqActionSS (fun x h => by unfold ok_laws_eqActionSS at h; exact h) (fun x => by unfold v_laws_eqActionSS; rfl)
noncomputable def dc_laws_eqKeymap : DCode :=
  (.seq [3, 2] (.region [oa 0 2 (.boxB 0 2 (.t 0)),
 oa 1 3 (.boxB 1 2 (.t 1)),
 oa 2 4 (.mv (.c (.bool false)))])
  (.seq [3, 2] (.seq [9, 3, 2] (.region [oa 0 5 (.fieldA 0 (.t 2)),
 oa 1 6 (.loadB 0 none (.t 5)),
 oa 2 7 (.fieldA 0 (.t 3)),
 oa 3 8 (.loadB 1 none (.t 7)),
 oa 4 9 (.bin .neq (.t 6) (.t 8))])
  (.cond (.t 9) (.seq [4] (.region [oa 0 4 (.mv (.c (.bool false)))])
  .ret) .skip))
  (.seq [] (.seq [15] (.region [oa 0 10 (.fieldA 1 (.t 2)),
 oa 1 11 (.loadB 0 none (.t 10)),
 oa 2 12 (.fieldA 1 (.t 3)),
 oa 3 13 (.loadB 1 none (.t 12)),
 oc 4 14 s_laws_eqActionSS p_laws_eqActionSS D_laws_eqActionSS [(.t 11), (.t 13)],
 oa 5 15 (.un .not (.t 14))])
  (.cond (.t 15) (.seq [4] (.region [oa 0 4 (.mv (.c (.bool false)))])
  .ret) .skip))
  (.seq [4] (.region [oa 0 4 (.mv (.c (.bool true)))])
  .ret))))
noncomputable def df_laws_eqKeymap : DFun := ⟨2, 16, 2, true, [.tmp 4], dc_laws_eqKeymap⟩
noncomputable def pf_laws_eqKeymap : PFun := df_laws_eqKeymap.er
noncomputable def f_laws_eqKeymap : AFun := pf_laws_eqKeymap.er
@[irreducible] noncomputable def s_laws_eqKeymap : CallSem := funSem f_laws_eqKeymap
@[irreducible] noncomputable def p_laws_eqKeymap : PSem := pfunSem pf_laws_eqKeymap
theorem sp_laws_eqKeymap : SoundP s_laws_eqKeymap p_laws_eqKeymap := by unfold s_laws_eqKeymap p_laws_eqKeymap; exact pfun_sound (f := pf_laws_eqKeymap) ⟨sp_laws_eqActionSS, trivial⟩
def h_laws_eqKeymap : List HT := [.agg [(.frz, .int .i64), (.frz, .sl (.one (.sl (.cons (.int .i64) (.cons (.int .i64) (.cons (.int .i64) (.one (.int .i64))))))))], .agg [(.frz, .int .i64), (.frz, .sl (.one (.sl (.cons (.int .i64) (.cons (.int .i64) (.cons (.int .i64) (.one (.int .i64))))))))]]
def q_laws_eqKeymap : QT := .one (.one .own (.bool))
@[irreducible] noncomputable def v_laws_eqKeymap (x : (Int × (List (List (Int × Int × Int × Int)))) × (Int × (List (List (Int × Int × Int × Int))))) : Bool := fnV df_laws_eqKeymap h_laws_eqKeymap q_laws_eqKeymap x
@[irreducible] noncomputable def ok_laws_eqKeymap (x : (Int × (List (List (Int × Int × Int × Int)))) × (Int × (List (List (Int × Int × Int × Int))))) : Prop := fnOk df_laws_eqKeymap h_laws_eqKeymap q_laws_eqKeymap x
noncomputable def D_laws_eqKeymap : DSem := DSemOf h_laws_eqKeymap q_laws_eqKeymap ok_laws_eqKeymap v_laws_eqKeymap
theorem ck_laws_eqKeymap (x : (Int × (List (List (Int × Int × Int × Int)))) × (Int × (List (List (Int × Int × Int × Int))))) : fnChk df_laws_eqKeymap h_laws_eqKeymap q_laws_eqKeymap x = true := by kernel_rfl
theorem ob_laws_eqKeymap : AllD df_laws_eqKeymap.body.obs := ⟨sd_laws_eqActionSS, trivial⟩
theorem st_laws_eqKeymap : fnSt df_laws_eqKeymap h_laws_eqKeymap q_laws_eqKeymap = true := by kernel_rfl
theorem sd_laws_eqKeymap : SoundD p_laws_eqKeymap D_laws_eqKeymap := by unfold p_laws_eqKeymap; exact soundD_of (f := df_laws_eqKeymap) (hs := h_laws_eqKeymap) (q := q_laws_eqKeymap) ob_laws_eqKeymap st_laws_eqKeymap ck_laws_eqKeymap (fun x h => by unfold ok_laws_eqKeymap at h; exact h) (fun x => by unfold v_laws_eqKeymap; rfl)
end
section
set_option maxRecDepth 100000
theorem ve_laws_szActionS (x : (List (Int × Int × Int × Int)) × Int) : v_laws_szActionS x = (bSel (iLt (iSub Go.IntKind.i64 x.2 (lLen x.1)) 0) (-1) (iSub Go.IntKind.i64 x.2 (lLen x.1))) := by kernel_rfl
theorem oe_laws_szActionS (x : (List (Int × Int × Int × Int)) × Int) : ok_laws_szActionS x = True := by kernel_rfl
theorem ve_laws_szActionSS (x : (List (List (Int × Int × Int × Int))) × Int) : v_laws_szActionSS x = (bSel (iLt (iSub Go.IntKind.i64 x.2 (lLen x.1)) 0) (-1) (bSel (iLt (loopV (fun (x0 : (Int × Int)) => (bAnd (iLt x0.2 (lLen x.1)) (bNot (iLt (v_laws_szActionS ((lGet x.1 (iNat x0.2) []), x0.1)) 0)))) (fun (x0 : (Int × Int)) => ((v_laws_szActionS ((lGet x.1 (iNat x0.2) []), x0.1)), (iAdd Go.IntKind.i64 x0.2 1))) ((iSub Go.IntKind.i64 x.2 (lLen x.1)), 0)).2 (lLen x.1)) (-1) (loopV (fun (x0 : (Int × Int)) => (bAnd (iLt x0.2 (lLen x.1)) (bNot (iLt (v_laws_szActionS ((lGet x.1 (iNat x0.2) []), x0.1)) 0)))) (fun (x0 : (Int × Int)) => ((v_laws_szActionS ((lGet x.1 (iNat x0.2) []), x0.1)), (iAdd Go.IntKind.i64 x0.2 1))) ((iSub Go.IntKind.i64 x.2 (lLen x.1)), 0)).1)) := by kernel_rfl
theorem oe_laws_szActionSS (x : (List (List (Int × Int × Int × Int))) × Int) : ok_laws_szActionSS x = (((iLt (iSub Go.IntKind.i64 x.2 (lLen x.1)) 0) = true → True) ∧ ((iLt (iSub Go.IntKind.i64 x.2 (lLen x.1)) 0) = false → (LoopOk (fun (x0 : (Int × Int)) => (bAnd (iLt x0.2 (lLen x.1)) (bNot (iLt (v_laws_szActionS ((lGet x.1 (iNat x0.2) []), x0.1)) 0)))) (fun (x0 : (Int × Int)) => ((v_laws_szActionS ((lGet x.1 (iNat x0.2) []), x0.1)), (iAdd Go.IntKind.i64 x0.2 1))) (fun (x0 : (Int × Int)) => (((iLt x0.2 (lLen x.1)) = true → ((((0 : Int) ≤ x0.2) ∧ (x0.2 < (((List.length x.1) : Int)))) ∧ (((iNat x0.2) < (List.length x.1)) ∧ (ok_laws_szActionS ((lGet x.1 (iNat x0.2) []), x0.1))))) ∧ ((iLt x0.2 (lLen x.1)) = false → True))) ((iSub Go.IntKind.i64 x.2 (lLen x.1)), 0)))) := by kernel_rfl
theorem ve_laws_szKeymap (x : (Int × (List (List (Int × Int × Int × Int)))) × Int) : v_laws_szKeymap x = (bSel (iLt (v_laws_szActionSS (x.1.2, x.2)) 0) (-1) (v_laws_szActionSS (x.1.2, x.2))) := by kernel_rfl
theorem oe_laws_szKeymap (x : (Int × (List (List (Int × Int × Int × Int)))) × Int) : ok_laws_szKeymap x = (ok_laws_szActionSS (x.1.2, x.2)) := by kernel_rfl
theorem ve_laws_toActionS (x : List (Int × Int × Int × Int)) : v_laws_toActionS x = (loopV (fun (x0 : ((List (Int × (Int × (Int × Int)))) × Int)) => (iLt x0.2 (lLen x))) (fun (x0 : ((List (Int × (Int × (Int × Int)))) × Int)) => ((lSet x0.1 (iNat x0.2) ((v_laws_toAction ((lGet x (iNat x0.2) (0, 0, 0, 0)).1, (lGet x (iNat x0.2) (0, 0, 0, 0)).2.1, (lGet x (iNat x0.2) (0, 0, 0, 0)).2.2.1, (lGet x (iNat x0.2) (0, 0, 0, 0)).2.2.2)).1, (v_laws_toAction ((lGet x (iNat x0.2) (0, 0, 0, 0)).1, (lGet x (iNat x0.2) (0, 0, 0, 0)).2.1, (lGet x (iNat x0.2) (0, 0, 0, 0)).2.2.1, (lGet x (iNat x0.2) (0, 0, 0, 0)).2.2.2)).2.1, (v_laws_toAction ((lGet x (iNat x0.2) (0, 0, 0, 0)).1, (lGet x (iNat x0.2) (0, 0, 0, 0)).2.1, (lGet x (iNat x0.2) (0, 0, 0, 0)).2.2.1, (lGet x (iNat x0.2) (0, 0, 0, 0)).2.2.2)).2.2.1, (v_laws_toAction ((lGet x (iNat x0.2) (0, 0, 0, 0)).1, (lGet x (iNat x0.2) (0, 0, 0, 0)).2.1, (lGet x (iNat x0.2) (0, 0, 0, 0)).2.2.1, (lGet x (iNat x0.2) (0, 0, 0, 0)).2.2.2)).2.2.2)), (iAdd Go.IntKind.i64 x0.2 1))) ((lRep (lLen x) (0, 0, 0, 0)), 0)).1 := by kernel_rfl
theorem oe_laws_toActionS (x : List (Int × Int × Int × Int)) : ok_laws_toActionS x = ((((0 : Int) ≤ (lLen x)) ∧ (roomy ((Int.toNat (lLen x)) * 4))) ∧ (LoopOk (fun (x0 : ((List (Int × (Int × (Int × Int)))) × Int)) => (iLt x0.2 (lLen x))) (fun (x0 : ((List (Int × (Int × (Int × Int)))) × Int)) => ((lSet x0.1 (iNat x0.2) ((v_laws_toAction ((lGet x (iNat x0.2) (0, 0, 0, 0)).1, (lGet x (iNat x0.2) (0, 0, 0, 0)).2.1, (lGet x (iNat x0.2) (0, 0, 0, 0)).2.2.1, (lGet x (iNat x0.2) (0, 0, 0, 0)).2.2.2)).1, (v_laws_toAction ((lGet x (iNat x0.2) (0, 0, 0, 0)).1, (lGet x (iNat x0.2) (0, 0, 0, 0)).2.1, (lGet x (iNat x0.2) (0, 0, 0, 0)).2.2.1, (lGet x (iNat x0.2) (0, 0, 0, 0)).2.2.2)).2.1, (v_laws_toAction ((lGet x (iNat x0.2) (0, 0, 0, 0)).1, (lGet x (iNat x0.2) (0, 0, 0, 0)).2.1, (lGet x (iNat x0.2) (0, 0, 0, 0)).2.2.1, (lGet x (iNat x0.2) (0, 0, 0, 0)).2.2.2)).2.2.1, (v_laws_toAction ((lGet x (iNat x0.2) (0, 0, 0, 0)).1, (lGet x (iNat x0.2) (0, 0, 0, 0)).2.1, (lGet x (iNat x0.2) (0, 0, 0, 0)).2.2.1, (lGet x (iNat x0.2) (0, 0, 0, 0)).2.2.2)).2.2.2)), (iAdd Go.IntKind.i64 x0.2 1))) (fun (x0 : ((List (Int × (Int × (Int × Int)))) × Int)) => (((iLt x0.2 (lLen x)) = true → ((((0 : Int) ≤ x0.2) ∧ (x0.2 < (((List.length x) : Int)))) ∧ (((iNat x0.2) < (List.length x)) ∧ ((ok_laws_toAction ((lGet x (iNat x0.2) (0, 0, 0, 0)).1, (lGet x (iNat x0.2) (0, 0, 0, 0)).2.1, (lGet x (iNat x0.2) (0, 0, 0, 0)).2.2.1, (lGet x (iNat x0.2) (0, 0, 0, 0)).2.2.2)) ∧ ((((0 : Int) ≤ x0.2) ∧ (x0.2 < (((List.length x0.1) : Int)))) ∧ ((iNat x0.2) < (List.length x0.1))))))) ∧ ((iLt x0.2 (lLen x)) = false → True))) ((lRep (lLen x) (0, 0, 0, 0)), 0))) := by kernel_rfl
theorem ve_laws_toActionSS (x : List (List (Int × Int × Int × Int))) : v_laws_toActionSS x = (loopV (fun (x0 : ((List (List (Int × (Int × (Int × Int))))) × Int)) => (iLt x0.2 (lLen x))) (fun (x0 : ((List (List (Int × (Int × (Int × Int))))) × Int)) => ((lSet x0.1 (iNat x0.2) (v_laws_toActionS (lGet x (iNat x0.2) []))), (iAdd Go.IntKind.i64 x0.2 1))) ((lRep (lLen x) []), 0)).1 := by kernel_rfl
theorem oe_laws_toActionSS (x : List (List (Int × Int × Int × Int))) : ok_laws_toActionSS x = ((((0 : Int) ≤ (lLen x)) ∧ (roomy ((Int.toNat (lLen x)) * 1))) ∧ (LoopOk (fun (x0 : ((List (List (Int × (Int × (Int × Int))))) × Int)) => (iLt x0.2 (lLen x))) (fun (x0 : ((List (List (Int × (Int × (Int × Int))))) × Int)) => ((lSet x0.1 (iNat x0.2) (v_laws_toActionS (lGet x (iNat x0.2) []))), (iAdd Go.IntKind.i64 x0.2 1))) (fun (x0 : ((List (List (Int × (Int × (Int × Int))))) × Int)) => (((iLt x0.2 (lLen x)) = true → ((((0 : Int) ≤ x0.2) ∧ (x0.2 < (((List.length x) : Int)))) ∧ (((iNat x0.2) < (List.length x)) ∧ ((ok_laws_toActionS (lGet x (iNat x0.2) [])) ∧ ((((0 : Int) ≤ x0.2) ∧ (x0.2 < (((List.length x0.1) : Int)))) ∧ ((iNat x0.2) < (List.length x0.1))))))) ∧ ((iLt x0.2 (lLen x)) = false → True))) ((lRep (lLen x) []), 0))) := by kernel_rfl
theorem ve_laws_toKeymap (x : Int × (List (List (Int × Int × Int × Int)))) : v_laws_toKeymap x = (x.1, (v_laws_toActionSS x.2)) := by kernel_rfl
theorem oe_laws_toKeymap (x : Int × (List (List (Int × Int × Int × Int)))) : ok_laws_toKeymap x = (ok_laws_toActionSS x.2) := by kernel_rfl
theorem ve_laws_eqActionS (x : (List (Int × Int × Int × Int)) × (List (Int × Int × Int × Int))) : v_laws_eqActionS x = (bAnd (bNot (iNe (lLen x.1) (lLen x.2))) (bNot (iLt (loopV (fun (x0 : Int) => (bAnd (iLt x0 (lLen x.1)) (bNot (bNot (v_laws_eqAction (((lGet x.1 (iNat x0) (0, 0, 0, 0)).1, (lGet x.1 (iNat x0) (0, 0, 0, 0)).2.1, (lGet x.1 (iNat x0) (0, 0, 0, 0)).2.2.1, (lGet x.1 (iNat x0) (0, 0, 0, 0)).2.2.2), (lGet x.2 (iNat x0) (0, 0, 0, 0)).1, (lGet x.2 (iNat x0) (0, 0, 0, 0)).2.1, (lGet x.2 (iNat x0) (0, 0, 0, 0)).2.2.1, (lGet x.2 (iNat x0) (0, 0, 0, 0)).2.2.2)))))) (fun (x0 : Int) => (iAdd Go.IntKind.i64 x0 1)) 0) (lLen x.1)))) := by kernel_rfl
theorem oe_laws_eqActionS (x : (List (Int × Int × Int × Int)) × (List (Int × Int × Int × Int))) : ok_laws_eqActionS x = (((iNe (lLen x.1) (lLen x.2)) = true → True) ∧ ((iNe (lLen x.1) (lLen x.2)) = false → (LoopOk (fun (x0 : Int) => (bAnd (iLt x0 (lLen x.1)) (bNot (bNot (v_laws_eqAction (((lGet x.1 (iNat x0) (0, 0, 0, 0)).1, (lGet x.1 (iNat x0) (0, 0, 0, 0)).2.1, (lGet x.1 (iNat x0) (0, 0, 0, 0)).2.2.1, (lGet x.1 (iNat x0) (0, 0, 0, 0)).2.2.2), (lGet x.2 (iNat x0) (0, 0, 0, 0)).1, (lGet x.2 (iNat x0) (0, 0, 0, 0)).2.1, (lGet x.2 (iNat x0) (0, 0, 0, 0)).2.2.1, (lGet x.2 (iNat x0) (0, 0, 0, 0)).2.2.2)))))) (fun (x0 : Int) => (iAdd Go.IntKind.i64 x0 1)) (fun (x0 : Int) => (((iLt x0 (lLen x.1)) = true → ((((0 : Int) ≤ x0) ∧ (x0 < (((List.length x.1) : Int)))) ∧ (((iNat x0) < (List.length x.1)) ∧ ((((0 : Int) ≤ x0) ∧ (x0 < (((List.length x.2) : Int)))) ∧ (((iNat x0) < (List.length x.2)) ∧ (ok_laws_eqAction (((lGet x.1 (iNat x0) (0, 0, 0, 0)).1, (lGet x.1 (iNat x0) (0, 0, 0, 0)).2.1, (lGet x.1 (iNat x0) (0, 0, 0, 0)).2.2.1, (lGet x.1 (iNat x0) (0, 0, 0, 0)).2.2.2), (lGet x.2 (iNat x0) (0, 0, 0, 0)).1, (lGet x.2 (iNat x0) (0, 0, 0, 0)).2.1, (lGet x.2 (iNat x0) (0, 0, 0, 0)).2.2.1, (lGet x.2 (iNat x0) (0, 0, 0, 0)).2.2.2))))))) ∧ ((iLt x0 (lLen x.1)) = false → True))) 0))) := by kernel_rfl
theorem ve_laws_eqActionSS (x : (List (List (Int × Int × Int × Int))) × (List (List (Int × Int × Int × Int)))) : v_laws_eqActionSS x = (bAnd (bNot (iNe (lLen x.1) (lLen x.2))) (bNot (iLt (loopV (fun (x0 : Int) => (bAnd (iLt x0 (lLen x.1)) (bNot (bNot (v_laws_eqActionS ((lGet x.1 (iNat x0) []), (lGet x.2 (iNat x0) []))))))) (fun (x0 : Int) => (iAdd Go.IntKind.i64 x0 1)) 0) (lLen x.1)))) := by kernel_rfl
theorem oe_laws_eqActionSS (x : (List (List (Int × Int × Int × Int))) × (List (List (Int × Int × Int × Int)))) : ok_laws_eqActionSS x = (((iNe (lLen x.1) (lLen x.2)) = true → True) ∧ ((iNe (lLen x.1) (lLen x.2)) = false → (LoopOk (fun (x0 : Int) => (bAnd (iLt x0 (lLen x.1)) (bNot (bNot (v_laws_eqActionS ((lGet x.1 (iNat x0) []), (lGet x.2 (iNat x0) []))))))) (fun (x0 : Int) => (iAdd Go.IntKind.i64 x0 1)) (fun (x0 : Int) => (((iLt x0 (lLen x.1)) = true → ((((0 : Int) ≤ x0) ∧ (x0 < (((List.length x.1) : Int)))) ∧ (((iNat x0) < (List.length x.1)) ∧ ((((0 : Int) ≤ x0) ∧ (x0 < (((List.length x.2) : Int)))) ∧ (((iNat x0) < (List.length x.2)) ∧ (ok_laws_eqActionS ((lGet x.1 (iNat x0) []), (lGet x.2 (iNat x0) [])))))))) ∧ ((iLt x0 (lLen x.1)) = false → True))) 0))) := by kernel_rfl
theorem ve_laws_eqKeymap (x : (Int × (List (List (Int × Int × Int × Int)))) × (Int × (List (List (Int × Int × Int × Int))))) : v_laws_eqKeymap x = (bAnd (bNot (iNe x.1.1 x.2.1)) (bNot (bNot (v_laws_eqActionSS (x.1.2, x.2.2))))) := by kernel_rfl
theorem oe_laws_eqKeymap (x : (Int × (List (List (Int × Int × Int × Int)))) × (Int × (List (List (Int × Int × Int × Int))))) : ok_laws_eqKeymap x = (((iNe x.1.1 x.2.1) = true → True) ∧ ((iNe x.1.1 x.2.1) = false → (ok_laws_eqActionSS (x.1.2, x.2.2)))) := by kernel_rfl
end
def sm_ActionS (x : List (Int × Int × Int × Int)) : Prop := x.length ≤ 1048576 ∧ ∀ a ∈ x, sm_Action a
def wl_ActionS (x : List (Int × Int × Int × Int)) : Prop := x.length ≤ 9223372036854775807 ∧ ∀ a ∈ x, wl_Action a
theorem sz_ActionS (x : List (Int × Int × Int × Int)) (hw : wl_ActionS x) (l : Int) (h0 : 0 ≤ l) (h1 : l ≤ 1048576) : ok_laws_szActionS (x, l) ∧ (v_laws_szActionS (x, l) < 0 ∨ (0 ≤ v_laws_szActionS (x, l) ∧ v_laws_szActionS (x, l) ≤ l ∧ sm_ActionS x)) := by
  rw [oe_laws_szActionS, ve_laws_szActionS]
  have hl : x.length ≤ 9223372036854775807 := hw.1
  have hs : iSub .i64 l (lLen x) = l - x.length := by rw [lLen_eq]; exact iSub_i64 (by unfold In64; omega)
  refine ⟨trivial, ?_⟩
  simp only [hs, iLt_eq, bSel_eq, decide_eq_true_eq]
  split
  · left; omega
  · right; exact ⟨by omega, by omega, ⟨by omega, fun a _ => by simp [sm_Action]⟩⟩
def sm_ActionSS (x : List (List (Int × Int × Int × Int))) : Prop := x.length ≤ 1048576 ∧ ∀ a ∈ x, sm_ActionS a
def wl_ActionSS (x : List (List (Int × Int × Int × Int))) : Prop := x.length ≤ 9223372036854775807 ∧ ∀ a ∈ x, wl_ActionS a
theorem sz_ActionSS (x : List (List (Int × Int × Int × Int))) (hw : wl_ActionSS x) (l : Int) (h0 : 0 ≤ l) (h1 : l ≤ 1048576) : ok_laws_szActionSS (x, l) ∧ (v_laws_szActionSS (x, l) < 0 ∨ (0 ≤ v_laws_szActionSS (x, l) ∧ v_laws_szActionSS (x, l) ≤ l ∧ sm_ActionSS x)) := by
  rw [oe_laws_szActionSS, ve_laws_szActionSS]
  obtain ⟨hl, hw2⟩ := hw
  have hs : iSub .i64 l (lLen x) = l - x.length := by rw [lLen_eq]; exact iSub_i64 (by unfold In64; omega)
  simp only [hs]
  by_cases hneg : l - (x.length : Int) < 0
  · have hb : iLt (l - (x.length : Int)) 0 = true := by rw [iLt_eq]; simpa using hneg
    rw [hb]
    exact ⟨⟨fun _ => trivial, fun h => (by cases h)⟩, by rw [bSel_t]; left; omega⟩
  · have hb : iLt (l - (x.length : Int)) 0 = false := by rw [iLt_eq]; simpa using hneg
    rw [hb]
    have hg : ∀ i : Nat, i < x.length → ∀ m : Int, 0 ≤ m → m ≤ 1048576 → ok_laws_szActionS (x.getD i [], m) ∧ (v_laws_szActionS (x.getD i [], m) < 0 ∨ (0 ≤ v_laws_szActionS (x.getD i [], m) ∧ v_laws_szActionS (x.getD i [], m) ≤ m ∧ sm_ActionS (x.getD i []))) := fun i hi m g0 g1 => sz_ActionS _ (hw2 _ (getD_mem x i [] hi)) m g0 g1
    refine ⟨⟨fun h => (by cases h), fun _ => sz_ok x [] sm_ActionS (fun a m => v_laws_szActionS (a, m)) (l - (x.length : Int)) (by omega) (by omega) (by omega) (fun i hi m g0 g1 => (hg i hi m g0 g1).2) (fun m i hi => by simp only [bAnd_eq, iLt_eq, lLen_eq, iNat_eq, lGet_eq, bNot_eq, Int.toNat_natCast, Int.ofNat_lt]) (fun m i hi => by simp only [iNat_eq, lGet_eq, Int.toNat_natCast]) (fun m i g0 g1 hi => ?_)⟩, ?_⟩
    · simp only [iLt_eq, lLen_eq, iNat_eq, lGet_eq, decide_eq_true_eq, Int.toNat_natCast]
      exact ⟨fun hh => ⟨by omega, by omega, (hg i (by omega) m g0 g1).1⟩, fun _ => trivial⟩
    · rw [bSel_f]
      have hv := sz_v (c := fun st : Int × Int => bAnd (iLt st.2 (lLen x)) (bNot (iLt (v_laws_szActionS ((lGet x (iNat st.2) []), st.1)) 0))) (f := fun st => (v_laws_szActionS ((lGet x (iNat st.2) []), st.1), iAdd .i64 st.2 1)) x [] sm_ActionS (fun a m => v_laws_szActionS (a, m)) (l - (x.length : Int)) (by omega) (by omega) (by omega) (fun i hi m g0 g1 => (hg i hi m g0 g1).2) (fun m i hi => by simp only [bAnd_eq, iLt_eq, lLen_eq, iNat_eq, lGet_eq, bNot_eq, Int.toNat_natCast, Int.ofNat_lt]) (fun m i hi => by simp only [iNat_eq, lGet_eq, Int.toNat_natCast])
      rcases sz_fin (l := l) (by omega) hv with h | ⟨h2, h3, h4⟩
      · exact .inl h
      · exact .inr ⟨h2, h3, (by omega), h4⟩
def sm_Keymap (x : Int × (List (List (Int × Int × Int × Int)))) : Prop := sm_ActionSS x.2 ∧ True
def wl_Keymap (x : Int × (List (List (Int × Int × Int × Int)))) : Prop := wl_ActionSS x.2 ∧ True
theorem sz_Keymap (x : Int × (List (List (Int × Int × Int × Int)))) (hw : wl_Keymap x) (l : Int) (h0 : 0 ≤ l) (h1 : l ≤ 1048576) : ok_laws_szKeymap (x, l) ∧ (v_laws_szKeymap (x, l) < 0 ∨ (0 ≤ v_laws_szKeymap (x, l) ∧ v_laws_szKeymap (x, l) ≤ l ∧ sm_Keymap x)) := by
  rw [oe_laws_szKeymap, ve_laws_szKeymap]
  have hx := hw
  unfold wl_Keymap at hw
  obtain ⟨k0, g0⟩ := sz_ActionSS x.2 hw.1 l (by omega) (by omega)
  generalize hz0 : v_laws_szActionSS (x.2, l) = z0 at g0 ⊢
  rcases g0 with g0 | ⟨g0, g0', g0''⟩
  · have hb : iLt z0 0 = true := by rw [iLt_eq]; simpa using g0
    refine ⟨?_, ?_⟩
    · simp [k0, hb]
    · simp only [hb, bSel_t]; left; omega
  have hb0 : iLt z0 0 = false := by rw [iLt_eq]; simpa using g0
  simp only [hb0, bSel_f]
  exact ⟨by simp [k0], .inr ⟨by omega, by omega, g0'', trivial⟩⟩
theorem to_ActionS (x : List (Int × Int × Int × Int)) (h : sm_ActionS x) : ok_laws_toActionS x ∧ v_laws_toActionS x = x := by
  rw [oe_laws_toActionS, ve_laws_toActionS]
  obtain ⟨h1, h2⟩ := h
  have hY : ∀ i : Nat, i < x.length → ok_laws_toAction ((x.getD i (0, 0, 0, 0)).1, (x.getD i (0, 0, 0, 0)).2.1, (x.getD i (0, 0, 0, 0)).2.2.1, (x.getD i (0, 0, 0, 0)).2.2.2) ∧ v_laws_toAction ((x.getD i (0, 0, 0, 0)).1, (x.getD i (0, 0, 0, 0)).2.1, (x.getD i (0, 0, 0, 0)).2.2.1, (x.getD i (0, 0, 0, 0)).2.2.2) = x.getD i (0, 0, 0, 0) := fun i hi => to_Action _ (h2 _ (getD_mem x i (0, 0, 0, 0) hi))
  refine ⟨⟨⟨by rw [lLen_eq]; omega, roomy_of (by rw [lLen_eq]; omega) (by rw [lLen_eq]; omega) (by omega)⟩, copyg_ok x (0, 0, 0, 0) (0, 0, 0, 0) h1 (fun _ => rfl) (fun l i hi => by simp only [lSet_eq, lGet_eq, iNat_eq, Int.toNat_natCast]; rw [(hY i hi).2]) (fun l i hl hi => ?_)⟩, copyg_v x (0, 0, 0, 0) (0, 0, 0, 0) h1 (fun _ => rfl) (fun l i hi => by simp only [lSet_eq, lGet_eq, iNat_eq, Int.toNat_natCast]; rw [(hY i hi).2])⟩
  simp only [iLt_eq, lLen_eq, iNat_eq, lGet_eq, decide_eq_true_eq, Int.toNat_natCast]
  exact ⟨fun hh => ⟨by omega, by omega, (hY i (by omega)).1, by omega, by omega⟩, fun _ => trivial⟩
theorem to_ActionSS (x : List (List (Int × Int × Int × Int))) (h : sm_ActionSS x) : ok_laws_toActionSS x ∧ v_laws_toActionSS x = x := by
  rw [oe_laws_toActionSS, ve_laws_toActionSS]
  obtain ⟨h1, h2⟩ := h
  have hY : ∀ i : Nat, i < x.length → ok_laws_toActionS (x.getD i []) ∧ v_laws_toActionS (x.getD i []) = x.getD i [] := fun i hi => to_ActionS _ (h2 _ (getD_mem x i [] hi))
  refine ⟨⟨⟨by rw [lLen_eq]; omega, roomy_of (by rw [lLen_eq]; omega) (by rw [lLen_eq]; omega) (by omega)⟩, copyg_ok x [] [] h1 (fun _ => rfl) (fun l i hi => by simp only [lSet_eq, lGet_eq, iNat_eq, Int.toNat_natCast]; rw [(hY i hi).2]) (fun l i hl hi => ?_)⟩, copyg_v x [] [] h1 (fun _ => rfl) (fun l i hi => by simp only [lSet_eq, lGet_eq, iNat_eq, Int.toNat_natCast]; rw [(hY i hi).2])⟩
  simp only [iLt_eq, lLen_eq, iNat_eq, lGet_eq, decide_eq_true_eq, Int.toNat_natCast]
  exact ⟨fun hh => ⟨by omega, by omega, (hY i (by omega)).1, by omega, by omega⟩, fun _ => trivial⟩
theorem to_Keymap (x : Int × (List (List (Int × Int × Int × Int)))) (h : sm_Keymap x) : ok_laws_toKeymap x ∧ v_laws_toKeymap x = x := by
  rw [oe_laws_toKeymap, ve_laws_toKeymap]
  have k0 := to_ActionSS x.2 (by unfold sm_Keymap at h; exact h.1)
  refine ⟨k0.1, ?_⟩
  simp only [k0.2]
theorem eq_ActionS (a b : List (Int × Int × Int × Int)) (h : sm_ActionS a) : ok_laws_eqActionS (a, b) ∧ (v_laws_eqActionS (a, b) = true ↔ a = b) := by
  rw [oe_laws_eqActionS, ve_laws_eqActionS]
  obtain ⟨h1, h2⟩ := h
  have hY : ∀ i : Nat, i < a.length → ok_laws_eqAction (((lGet a i (0, 0, 0, 0)).1, (lGet a i (0, 0, 0, 0)).2.1, (lGet a i (0, 0, 0, 0)).2.2.1, (lGet a i (0, 0, 0, 0)).2.2.2), ((lGet b i (0, 0, 0, 0)).1, (lGet b i (0, 0, 0, 0)).2.1, (lGet b i (0, 0, 0, 0)).2.2.1, (lGet b i (0, 0, 0, 0)).2.2.2)) ∧ (v_laws_eqAction (((lGet a i (0, 0, 0, 0)).1, (lGet a i (0, 0, 0, 0)).2.1, (lGet a i (0, 0, 0, 0)).2.2.1, (lGet a i (0, 0, 0, 0)).2.2.2), ((lGet b i (0, 0, 0, 0)).1, (lGet b i (0, 0, 0, 0)).2.1, (lGet b i (0, 0, 0, 0)).2.2.1, (lGet b i (0, 0, 0, 0)).2.2.2)) = true ↔ a.getD i (0, 0, 0, 0) = b.getD i (0, 0, 0, 0)) := fun i hi => by
    have := eq_Action (a.getD i (0, 0, 0, 0)) (b.getD i (0, 0, 0, 0)) (h2 _ (getD_mem a i (0, 0, 0, 0) hi))
    rw [lGet_eq, lGet_eq]; exact this
  by_cases hl : a.length = b.length
  · refine ⟨⟨fun _ => trivial, fun _ => eq_ok a b (0, 0, 0, 0) (fun i => bNot (v_laws_eqAction (((lGet a i (0, 0, 0, 0)).1, (lGet a i (0, 0, 0, 0)).2.1, (lGet a i (0, 0, 0, 0)).2.2.1, (lGet a i (0, 0, 0, 0)).2.2.2), ((lGet b i (0, 0, 0, 0)).1, (lGet b i (0, 0, 0, 0)).2.1, (lGet b i (0, 0, 0, 0)).2.2.1, (lGet b i (0, 0, 0, 0)).2.2.2)))) hl (fun i hi => by simp only [bNot_eq, Bool.not_eq_false', (hY i hi).2]) (by omega) (fun i hi => by simp only [bAnd_eq, iLt_eq, lLen_eq, iNat_eq, bNot_eq, Int.toNat_natCast, Int.ofNat_lt]) (fun i hi => rfl) (fun i hi => ?_)⟩, ?_⟩
    · simp only [iLt_eq, lLen_eq, iNat_eq, decide_eq_true_eq, Int.toNat_natCast]
      exact ⟨fun hh => ⟨by omega, by omega, by omega, by omega, (hY i (by omega)).1⟩, fun _ => trivial⟩
    · have hv := eq_v (c := fun i : Int => bAnd (iLt i (lLen a)) (bNot ((fun i => bNot (v_laws_eqAction (((lGet a i (0, 0, 0, 0)).1, (lGet a i (0, 0, 0, 0)).2.1, (lGet a i (0, 0, 0, 0)).2.2.1, (lGet a i (0, 0, 0, 0)).2.2.2), ((lGet b i (0, 0, 0, 0)).1, (lGet b i (0, 0, 0, 0)).2.1, (lGet b i (0, 0, 0, 0)).2.2.1, (lGet b i (0, 0, 0, 0)).2.2.2)))) i.toNat))) (f := fun i => iAdd .i64 i 1) a b (0, 0, 0, 0) (fun i => bNot (v_laws_eqAction (((lGet a i (0, 0, 0, 0)).1, (lGet a i (0, 0, 0, 0)).2.1, (lGet a i (0, 0, 0, 0)).2.2.1, (lGet a i (0, 0, 0, 0)).2.2.2), ((lGet b i (0, 0, 0, 0)).1, (lGet b i (0, 0, 0, 0)).2.1, (lGet b i (0, 0, 0, 0)).2.2.1, (lGet b i (0, 0, 0, 0)).2.2.2)))) hl (fun i hi => by simp only [bNot_eq, Bool.not_eq_false', (hY i hi).2]) (by omega) (fun i hi => by simp only [bAnd_eq, iLt_eq, lLen_eq, bNot_eq, Int.toNat_natCast, Int.ofNat_lt]) (fun i hi => rfl)
      have e1 : bNot (iNe (lLen a) (lLen b)) = true := by rw [bNot_eq, iNe_eq, lLen_eq, lLen_eq, hl]; simp
      rw [e1, bAnd_eq true, Bool.true_and, bNot_eq (iLt _ (lLen a)), iLt_eq _ (lLen a)]
      simp only [← iNat_eq, lLen_eq] at hv ⊢
      simp only [Bool.not_eq_true', decide_eq_false_iff_not]
      rw [hv]; simp
  · have e1 : bNot (iNe (lLen a) (lLen b)) = false := by rw [bNot_eq, iNe_eq, lLen_eq, lLen_eq]; simp; omega
    refine ⟨⟨fun _ => trivial, fun h => ?_⟩, ?_⟩
    · rw [bNot_eq] at e1; rw [h] at e1; cases e1
    · rw [e1, bAnd_eq, Bool.false_and]; constructor
      · intro h; cases h
      · intro e; subst e; exact absurd rfl hl
theorem eq_ActionSS (a b : List (List (Int × Int × Int × Int))) (h : sm_ActionSS a) : ok_laws_eqActionSS (a, b) ∧ (v_laws_eqActionSS (a, b) = true ↔ a = b) := by
  rw [oe_laws_eqActionSS, ve_laws_eqActionSS]
  obtain ⟨h1, h2⟩ := h
  have hY : ∀ i : Nat, i < a.length → ok_laws_eqActionS ((lGet a i []), (lGet b i [])) ∧ (v_laws_eqActionS ((lGet a i []), (lGet b i [])) = true ↔ a.getD i [] = b.getD i []) := fun i hi => by
    have := eq_ActionS (a.getD i []) (b.getD i []) (h2 _ (getD_mem a i [] hi))
    rw [lGet_eq, lGet_eq]; exact this
  by_cases hl : a.length = b.length
  · refine ⟨⟨fun _ => trivial, fun _ => eq_ok a b [] (fun i => bNot (v_laws_eqActionS ((lGet a i []), (lGet b i [])))) hl (fun i hi => by simp only [bNot_eq, Bool.not_eq_false', (hY i hi).2]) (by omega) (fun i hi => by simp only [bAnd_eq, iLt_eq, lLen_eq, iNat_eq, bNot_eq, Int.toNat_natCast, Int.ofNat_lt]) (fun i hi => rfl) (fun i hi => ?_)⟩, ?_⟩
    · simp only [iLt_eq, lLen_eq, iNat_eq, decide_eq_true_eq, Int.toNat_natCast]
      exact ⟨fun hh => ⟨by omega, by omega, by omega, by omega, (hY i (by omega)).1⟩, fun _ => trivial⟩
    · have hv := eq_v (c := fun i : Int => bAnd (iLt i (lLen a)) (bNot ((fun i => bNot (v_laws_eqActionS ((lGet a i []), (lGet b i [])))) i.toNat))) (f := fun i => iAdd .i64 i 1) a b [] (fun i => bNot (v_laws_eqActionS ((lGet a i []), (lGet b i [])))) hl (fun i hi => by simp only [bNot_eq, Bool.not_eq_false', (hY i hi).2]) (by omega) (fun i hi => by simp only [bAnd_eq, iLt_eq, lLen_eq, bNot_eq, Int.toNat_natCast, Int.ofNat_lt]) (fun i hi => rfl)
      have e1 : bNot (iNe (lLen a) (lLen b)) = true := by rw [bNot_eq, iNe_eq, lLen_eq, lLen_eq, hl]; simp
      rw [e1, bAnd_eq true, Bool.true_and, bNot_eq (iLt _ (lLen a)), iLt_eq _ (lLen a)]
      simp only [← iNat_eq, lLen_eq] at hv ⊢
      simp only [Bool.not_eq_true', decide_eq_false_iff_not]
      rw [hv]; simp
  · have e1 : bNot (iNe (lLen a) (lLen b)) = false := by rw [bNot_eq, iNe_eq, lLen_eq, lLen_eq]; simp; omega
    refine ⟨⟨fun _ => trivial, fun h => ?_⟩, ?_⟩
    · rw [bNot_eq] at e1; rw [h] at e1; cases e1
    · rw [e1, bAnd_eq, Bool.false_and]; constructor
      · intro h; cases h
      · intro e; subst e; exact absurd rfl hl
theorem eq_Keymap (a b : Int × (List (List (Int × Int × Int × Int)))) (h : sm_Keymap a) : ok_laws_eqKeymap (a, b) ∧ (v_laws_eqKeymap (a, b) = true ↔ a = b) := by
  obtain ⟨a0, a1⟩ := a
  obtain ⟨b0, b1⟩ := b
  have k0 := eq_ActionSS a1 b1 (by unfold sm_Keymap at h; exact h.1)
  rw [oe_laws_eqKeymap, ve_laws_eqKeymap]
  refine ⟨by simp [k0.1, k0.2], ?_⟩
  simp only [k0.1, k0.2, bNot_eq, bAnd_eq, bIff_eq, iNe_eq, Bool.and_eq_true, Bool.not_not, decide_eq_true_eq, Prod.mk.injEq, beq_iff_eq]
  try (constructor <;> intro h <;> simp_all)
theorem wl_Keymap_of {k : Int} {x : List (List (Int × Int × Int × Int))} (h : CT.wf (.sl (.one (.sl (.cons (.int .i64) (.cons (.int .i64) (.cons (.int .i64) (.one (.int .i64)))))))) x) : wl_Keymap (k, x) := by
  exact ⟨⟨h.1, fun l hl => ⟨(h.2 l hl).1, fun a _ => by simp [wl_Action]⟩⟩, trivial⟩
section
set_option maxRecDepth 8000
noncomputable def dc_laws_szStepS : DCode :=
  (.seq [1, 0] (.region [oi 0 4 0])
  (.seq [1] (.region [om 0 5 1,
 on 1 6 0,
 oa 2 7 (.len (.t 6)),
 oa 3 8 (.bin .sub (.t 5) (.t 7)),
 om 4 1 8])
  (.seq [1] (.seq [10, 1] (.region [om 0 9 1,
 oa 1 10 (.bin .lss (.t 9) (.c (.int .i64 0)))])
  (.cond (.t 10) (.seq [4] (.region [oi 0 4 (-1)])
  .ret) .skip))
  (.seq [4] (.region [om 0 11 1,
 om 1 4 11])
  .ret))))
noncomputable def df_laws_szStepS : DFun := ⟨2, 12, 0, true, [.tmp 4], dc_laws_szStepS⟩
noncomputable def pf_laws_szStepS : PFun := df_laws_szStepS.er
noncomputable def f_laws_szStepS : AFun := pf_laws_szStepS.er
@[irreducible] noncomputable def s_laws_szStepS : CallSem := funSem f_laws_szStepS
@[irreducible] noncomputable def p_laws_szStepS : PSem := pfunSem pf_laws_szStepS
theorem sp_laws_szStepS : SoundP s_laws_szStepS p_laws_szStepS := by unfold s_laws_szStepS p_laws_szStepS; exact pfun_sound (f := pf_laws_szStepS) trivial
def h_laws_szStepS : List HT := [.one .frz (.sl (.cons (.int .i64) (.cons (.int .i64) (.one (.int .i64))))), .one .frz (.int .i64)]
def q_laws_szStepS : QT := .one (.one .own (.int .i64))
@[irreducible] noncomputable def v_laws_szStepS (x : (List (Int × Int × Int)) × Int) : Int := fnV df_laws_szStepS h_laws_szStepS q_laws_szStepS x
@[irreducible] noncomputable def ok_laws_szStepS (x : (List (Int × Int × Int)) × Int) : Prop := fnOk df_laws_szStepS h_laws_szStepS q_laws_szStepS x
noncomputable def D_laws_szStepS : DSem := DSemOf h_laws_szStepS q_laws_szStepS ok_laws_szStepS v_laws_szStepS
theorem ck_laws_szStepS (x : (List (Int × Int × Int)) × Int) : fnChk df_laws_szStepS h_laws_szStepS q_laws_szStepS x = true := by kernel_rfl
theorem ob_laws_szStepS : AllD df_laws_szStepS.body.obs := trivial
theorem st_laws_szStepS : fnSt df_laws_szStepS h_laws_szStepS q_laws_szStepS = true := by kernel_rfl
theorem sd_laws_szStepS : SoundD p_laws_szStepS D_laws_szStepS := by unfold p_laws_szStepS; exact soundD_of (f := df_laws_szStepS) (hs := h_laws_szStepS) (q := q_laws_szStepS) ob_laws_szStepS st_laws_szStepS ck_laws_szStepS (fun x h => by unfold ok_laws_szStepS at h; exact h) (fun x => by unfold v_laws_szStepS; rfl)
noncomputable def dc_laws_szStepSS : DCode :=
  (.seq [1, 0] (.region [oi 0 4 0])
  (.seq [1, 0] (.region [om 0 6 1,
 on 1 7 0,
 oa 2 8 (.len (.t 7)),
 oa 3 9 (.bin .sub (.t 6) (.t 8)),
 om 4 1 9])
  (.seq [1, 0] (.seq [11, 1, 0] (.region [om 0 10 1,
 oa 1 11 (.bin .lss (.t 10) (.c (.int .i64 0)))])
  (.cond (.t 11) (.seq [4] (.region [oi 0 4 (-1)])
  .ret) .skip))
  (.seq [1] (.seq [5, 1, 0] (.region [oi 0 5 0])
  (.block 0 (.loop [0, 1, 5] 1 (.seq [5, 1, 0] (.seq [15, 5, 1, 0] (.region [om 0 12 5,
 on 1 13 0,
 oa 2 14 (.len (.t 13)),
 oa 3 15 (.bin .lss (.t 12) (.t 14))])
  (.cond (.t 15) .skip (.exit 0)))
  (.seq [5, 1, 0] (.block 1 (.seq [5, 1, 0] (.region [on 0 18 0,
 om 1 19 5,
 oa 2 20 (.indexA 1 (.t 18) (.t 19)),
 oa 3 21 (.loadH none (.t 20)),
 om 4 22 1,
 oc 5 23 s_laws_szStepS p_laws_szStepS D_laws_szStepS [(.t 21), (.t 22)],
 om 6 1 23])
  (.seq [25, 5, 1, 0] (.region [om 0 24 1,
 oa 1 25 (.bin .lss (.t 24) (.c (.int .i64 0)))])
  (.cond (.t 25) (.seq [4] (.region [oi 0 4 (-1)])
  .ret) .skip))))
  (.region [om 0 16 5,
 oa 1 17 (.bin .add (.t 16) (.c (.int .i64 1))),
 om 2 5 17]))))))
  (.seq [4] (.region [om 0 26 1,
 om 1 4 26])
  .ret)))))
noncomputable def df_laws_szStepSS : DFun := ⟨2, 27, 0, true, [.tmp 4], dc_laws_szStepSS⟩
noncomputable def pf_laws_szStepSS : PFun := df_laws_szStepSS.er
noncomputable def f_laws_szStepSS : AFun := pf_laws_szStepSS.er
@[irreducible] noncomputable def s_laws_szStepSS : CallSem := funSem f_laws_szStepSS
@[irreducible] noncomputable def p_laws_szStepSS : PSem := pfunSem pf_laws_szStepSS
theorem sp_laws_szStepSS : SoundP s_laws_szStepSS p_laws_szStepSS := by unfold s_laws_szStepSS p_laws_szStepSS; exact pfun_sound (f := pf_laws_szStepSS) ⟨sp_laws_szStepS, trivial⟩
def h_laws_szStepSS : List HT := [.one .frz (.sl (.one (.sl (.cons (.int .i64) (.cons (.int .i64) (.one (.int .i64))))))), .one .frz (.int .i64)]
def q_laws_szStepSS : QT := .one (.one .own (.int .i64))
@[irreducible] noncomputable def v_laws_szStepSS (x : (List (List (Int × Int × Int))) × Int) : Int := fnV df_laws_szStepSS h_laws_szStepSS q_laws_szStepSS x
@[irreducible] noncomputable def ok_laws_szStepSS (x : (List (List (Int × Int × Int))) × Int) : Prop := fnOk df_laws_szStepSS h_laws_szStepSS q_laws_szStepSS x
noncomputable def D_laws_szStepSS : DSem := DSemOf h_laws_szStepSS q_laws_szStepSS ok_laws_szStepSS v_laws_szStepSS
theorem ck_laws_szStepSS (x : (List (List (Int × Int × Int))) × Int) : fnChk df_laws_szStepSS h_laws_szStepSS q_laws_szStepSS x = true := by kernel_rfl
theorem ob_laws_szStepSS : AllD df_laws_szStepSS.body.obs := ⟨sd_laws_szStepS, trivial⟩
theorem st_laws_szStepSS : fnSt df_laws_szStepSS h_laws_szStepSS q_laws_szStepSS = true := by kernel_rfl
theorem sd_laws_szStepSS : SoundD p_laws_szStepSS D_laws_szStepSS := by unfold p_laws_szStepSS; exact soundD_of (f := df_laws_szStepSS) (hs := h_laws_szStepSS) (q := q_laws_szStepSS) ob_laws_szStepSS st_laws_szStepSS ck_laws_szStepSS (fun x h => by unfold ok_laws_szStepSS at h; exact h) (fun x => by unfold v_laws_szStepSS; rfl)
noncomputable def dc_laws_szEngine : DCode :=
  (.seq [2, 1] (.region [oa 0 2 (.boxB 0 7 (.t 0)),
 oi 1 4 0])
  (.seq [2, 1] (.region [oa 0 5 (.fieldA 0 (.t 2)),
 oa 1 6 (.loadB 0 (some 2) (.t 5)),
 om 2 7 1,
 oc 3 8 s_laws_szKeymap p_laws_szKeymap D_laws_szKeymap [(.t 6), (.t 7)],
 om 4 1 8])
  (.seq [2, 1] (.seq [10, 2, 1] (.region [om 0 9 1,
 oa 1 10 (.bin .lss (.t 9) (.c (.int .i64 0)))])
  (.cond (.t 10) (.seq [4] (.region [oi 0 4 (-1)])
  .ret) .skip))
  (.seq [2, 1] (.region [oa 0 11 (.fieldA 2 (.t 2)),
 oa 1 12 (.loadB 0 none (.t 11)),
 om 2 13 1,
 oc 3 14 s_laws_szStepSS p_laws_szStepSS D_laws_szStepSS [(.t 12), (.t 13)],
 om 4 1 14])
  (.seq [2, 1] (.seq [16, 2, 1] (.region [om 0 15 1,
 oa 1 16 (.bin .lss (.t 15) (.c (.int .i64 0)))])
  (.cond (.t 16) (.seq [4] (.region [oi 0 4 (-1)])
  .ret) .skip))
  (.seq [1] (.region [oa 0 17 (.fieldA 4 (.t 2)),
 oa 1 18 (.loadB 0 none (.t 17)),
 om 2 19 1,
 oc 3 20 s_laws_szHeldS p_laws_szHeldS D_laws_szHeldS [(.t 18), (.t 19)],
 om 4 1 20])
  (.seq [1] (.seq [22, 1] (.region [om 0 21 1,
 oa 1 22 (.bin .lss (.t 21) (.c (.int .i64 0)))])
  (.cond (.t 22) (.seq [4] (.region [oi 0 4 (-1)])
  .ret) .skip))
  (.seq [4] (.region [om 0 23 1,
 om 1 4 23])
  .ret))))))))
noncomputable def df_laws_szEngine : DFun := ⟨2, 24, 1, true, [.tmp 4], dc_laws_szEngine⟩
noncomputable def pf_laws_szEngine : PFun := df_laws_szEngine.er
noncomputable def f_laws_szEngine : AFun := pf_laws_szEngine.er
@[irreducible] noncomputable def s_laws_szEngine : CallSem := funSem f_laws_szEngine
@[irreducible] noncomputable def p_laws_szEngine : PSem := pfunSem pf_laws_szEngine
theorem sp_laws_szEngine : SoundP s_laws_szEngine p_laws_szEngine := by unfold s_laws_szEngine p_laws_szEngine; exact pfun_sound (f := pf_laws_szEngine) ⟨sp_laws_szKeymap, sp_laws_szStepSS, sp_laws_szHeldS, trivial⟩
def h_laws_szEngine : List HT := [.agg [(.frz, .int .i64), (.frz, .sl (.one (.sl (.cons (.int .i64) (.cons (.int .i64) (.cons (.int .i64) (.one (.int .i64)))))))), (.frz, .sl (.one (.sl (.cons (.int .i64) (.cons (.int .i64) (.one (.int .i64))))))), (.frz, .int .i64), (.frz, .sl (.cons (.int .i64) (.cons (.int .i64) (.cons (.int .i64) (.cons (.int .i64) (.one (.int .i64))))))), (.frz, .int .i64), (.frz, .bool)], .one .frz (.int .i64)]
def q_laws_szEngine : QT := .one (.one .own (.int .i64))
@[irreducible] noncomputable def v_laws_szEngine (x : (Int × (List (List (Int × Int × Int × Int))) × (List (List (Int × Int × Int))) × Int × (List (Int × Int × Int × Int × Int)) × Int × Bool) × Int) : Int := fnV df_laws_szEngine h_laws_szEngine q_laws_szEngine x
@[irreducible] noncomputable def ok_laws_szEngine (x : (Int × (List (List (Int × Int × Int × Int))) × (List (List (Int × Int × Int))) × Int × (List (Int × Int × Int × Int × Int)) × Int × Bool) × Int) : Prop := fnOk df_laws_szEngine h_laws_szEngine q_laws_szEngine x
noncomputable def D_laws_szEngine : DSem := DSemOf h_laws_szEngine q_laws_szEngine ok_laws_szEngine v_laws_szEngine
theorem ck_laws_szEngine (x : (Int × (List (List (Int × Int × Int × Int))) × (List (List (Int × Int × Int))) × Int × (List (Int × Int × Int × Int × Int)) × Int × Bool) × Int) : fnChk df_laws_szEngine h_laws_szEngine q_laws_szEngine x = true := by kernel_rfl
theorem ob_laws_szEngine : AllD df_laws_szEngine.body.obs := ⟨sd_laws_szKeymap, sd_laws_szStepSS, sd_laws_szHeldS, trivial⟩
theorem st_laws_szEngine : fnSt df_laws_szEngine h_laws_szEngine q_laws_szEngine = true := by kernel_rfl
theorem sd_laws_szEngine : SoundD p_laws_szEngine D_laws_szEngine := by unfold p_laws_szEngine; exact soundD_of (f := df_laws_szEngine) (hs := h_laws_szEngine) (q := q_laws_szEngine) ob_laws_szEngine st_laws_szEngine ck_laws_szEngine (fun x h => by unfold ok_laws_szEngine at h; exact h) (fun x => by unfold v_laws_szEngine; rfl)
noncomputable def dc_laws_toStep : DCode :=
  (.seq [2, 1] (.region [oa 0 1 (.boxB 0 3 (.t 0)),
 oa 1 2 (.allocB 1 [(.int .i64 0), (.int .i64 0), (.int .i64 0)])])
  (.seq [3, 2, 1] (.region [oa 0 3 (.allocB 2 [(.int .i64 0), (.int .i64 0), (.int .i64 0)])])
  (.seq [3, 2, 1] (.region [oa 0 4 (.fieldA 0 (.t 1)),
 ob 1 5 (.loadB 0 none (.t 4)),
 oa 2 6 (.fieldA 0 (.t 3)),
 os 3 (.storeB 2 1 (.t 6) (.t 5))])
  (.seq [3, 2, 1] (.region [oa 0 7 (.fieldA 1 (.t 1)),
 ob 1 8 (.loadB 0 none (.t 7)),
 oa 2 9 (.fieldA 1 (.t 3)),
 os 3 (.storeB 2 1 (.t 9) (.t 8))])
  (.seq [3, 2] (.region [oa 0 10 (.fieldA 2 (.t 1)),
 ob 1 11 (.loadB 0 none (.t 10)),
 oa 2 12 (.fieldA 2 (.t 3)),
 os 3 (.storeB 2 1 (.t 12) (.t 11))])
  (.seq [2] (.region [ob 0 13 (.loadB 2 (some 3) (.t 3)),
 os 1 (.storeB 1 3 (.t 2) (.t 13))])
  .ret))))))
noncomputable def df_laws_toStep : DFun := ⟨1, 14, 3, true, [.cell 2 (some 3)], dc_laws_toStep⟩
noncomputable def pf_laws_toStep : PFun := df_laws_toStep.er
noncomputable def f_laws_toStep : AFun := pf_laws_toStep.er
@[irreducible] noncomputable def s_laws_toStep : CallSem := funSem f_laws_toStep
@[irreducible] noncomputable def p_laws_toStep : PSem := pfunSem pf_laws_toStep
theorem sp_laws_toStep : SoundP s_laws_toStep p_laws_toStep := by unfold s_laws_toStep p_laws_toStep; exact pfun_sound (f := pf_laws_toStep) trivial
def h_laws_toStep : List HT := [.agg [(.frz, .int .i64), (.frz, .int .i64), (.frz, .int .i64)]]
def q_laws_toStep : QT := .one (.agg [(.own, .int .i64), (.own, .int .i64), (.own, .int .i64)])
@[irreducible] noncomputable def v_laws_toStep (x : Int × Int × Int) : Int × Int × Int := fnV df_laws_toStep h_laws_toStep q_laws_toStep x
@[irreducible] noncomputable def ok_laws_toStep (x : Int × Int × Int) : Prop := fnOk df_laws_toStep h_laws_toStep q_laws_toStep x
noncomputable def D_laws_toStep : DSem := DSemOf h_laws_toStep q_laws_toStep ok_laws_toStep v_laws_toStep
theorem ck_laws_toStep (x : Int × Int × Int) : fnChk df_laws_toStep h_laws_toStep q_laws_toStep x = true := by kernel_rfl
theorem ob_laws_toStep : AllD df_laws_toStep.body.obs := trivial
theorem st_laws_toStep : fnSt df_laws_toStep h_laws_toStep q_laws_toStep = true := by kernel_rfl
theorem sd_laws_toStep : SoundD p_laws_toStep D_laws_toStep := by unfold p_laws_toStep; exact soundD_of (f := df_laws_toStep) (hs := h_laws_toStep) (q := q_laws_toStep) ob_laws_toStep st_laws_toStep ck_laws_toStep (fun x h => by unfold ok_laws_toStep at h; exact h) (fun x => by unfold v_laws_toStep; rfl)
noncomputable def dc_laws_toStepS : DCode :=
  (.seq [0] (.region [oa 0 2 (.mv (.c .nils))])
  (.seq [3, 0] (.region [on 0 5 0,
 oa 1 6 (.len (.t 5)),
 ⟨2, some 7, .a false (.mkSlice 3 [(.int .i64 0), (.int .i64 0), (.int .i64 0)] (.t 6)) (some (.cons (.int .i64) (.cons (.int .i64) (.one (.int .i64))))), none, []⟩,
 om 3 3 7])
  (.seq [3] (.seq [4, 3, 0] (.region [oi 0 4 0])
  (.block 0 (.loop [0, 3, 4] 1 (.seq [4, 3, 0] (.seq [11, 4, 3, 0] (.region [om 0 8 4,
 on 1 9 0,
 oa 2 10 (.len (.t 9)),
 oa 3 11 (.bin .lss (.t 8) (.t 10))])
  (.cond (.t 11) .skip (.exit 0)))
  (.seq [4, 3, 0] (.block 1 (.region [on 0 14 3,
 om 1 15 4,
 on 2 16 0,
 om 3 17 4,
 oa 4 18 (.indexA 3 (.t 16) (.t 17)),
 oa 5 19 (.loadH (some 3) (.t 18)),
 oc 6 20 s_laws_toStep p_laws_toStep D_laws_toStep [(.t 19)],
 oa 7 21 (.indexA 3 (.t 14) (.t 15)),
 os 8 (.storeH 3 (.t 21) (.t 20))]))
  (.region [om 0 12 4,
 oa 1 13 (.bin .add (.t 12) (.c (.int .i64 1))),
 om 2 4 13]))))))
  (.seq [2] (.region [om 0 22 3,
 om 1 2 22])
  .ret))))
noncomputable def df_laws_toStepS : DFun := ⟨1, 23, 0, false, [.tmp 2], dc_laws_toStepS⟩
noncomputable def pf_laws_toStepS : PFun := df_laws_toStepS.er
noncomputable def f_laws_toStepS : AFun := pf_laws_toStepS.er
@[irreducible] noncomputable def s_laws_toStepS : CallSem := funSem f_laws_toStepS
@[irreducible] noncomputable def p_laws_toStepS : PSem := pfunSem pf_laws_toStepS
theorem sp_laws_toStepS : SoundP s_laws_toStepS p_laws_toStepS := by unfold s_laws_toStepS p_laws_toStepS; exact pfun_sound (f := pf_laws_toStepS) ⟨sp_laws_toStep, trivial⟩
def h_laws_toStepS : List HT := [.one .frz (.sl (.cons (.int .i64) (.cons (.int .i64) (.one (.int .i64)))))]
def q_laws_toStepS : QT := .one (.one .own (.sl (.cons (.int .i64) (.cons (.int .i64) (.one (.int .i64))))))
@[irreducible] noncomputable def v_laws_toStepS (x : List (Int × Int × Int)) : List (Int × Int × Int) := fnV df_laws_toStepS h_laws_toStepS q_laws_toStepS x
@[irreducible] noncomputable def ok_laws_toStepS (x : List (Int × Int × Int)) : Prop := fnOk df_laws_toStepS h_laws_toStepS q_laws_toStepS x
noncomputable def D_laws_toStepS : DSem := DSemOf h_laws_toStepS q_laws_toStepS ok_laws_toStepS v_laws_toStepS
theorem ck_laws_toStepS (x : List (Int × Int × Int)) : fnChk df_laws_toStepS h_laws_toStepS q_laws_toStepS x = true := by kernel_rfl
theorem ob_laws_toStepS : AllD df_laws_toStepS.body.obs := ⟨sd_laws_toStep, trivial⟩
theorem st_laws_toStepS : fnSt df_laws_toStepS h_laws_toStepS q_laws_toStepS = true := by kernel_rfl
theorem sd_laws_toStepS : SoundD p_laws_toStepS D_laws_toStepS := by unfold p_laws_toStepS; exact soundD_of (f := df_laws_toStepS) (hs := h_laws_toStepS) (q := q_laws_toStepS) ob_laws_toStepS st_laws_toStepS ck_laws_toStepS (fun x h => by unfold ok_laws_toStepS at h; exact h) (fun x => by unfold v_laws_toStepS; rfl)
noncomputable def dc_laws_toStepSS : DCode :=
  (.seq [0] (.region [oa 0 2 (.mv (.c .nils))])
  (.seq [3, 0] (.region [on 0 5 0,
 oa 1 6 (.len (.t 5)),
 ⟨2, some 7, .a false (.mkSlice 1 [.nils] (.t 6)) (some (.one (.sl (.cons (.int .i64) (.cons (.int .i64) (.one (.int .i64))))))), none, []⟩,
 om 3 3 7])
  (.seq [3] (.seq [4, 3, 0] (.region [oi 0 4 0])
  (.block 0 (.loop [0, 3, 4] 1 (.seq [4, 3, 0] (.seq [11, 4, 3, 0] (.region [om 0 8 4,
 on 1 9 0,
 oa 2 10 (.len (.t 9)),
 oa 3 11 (.bin .lss (.t 8) (.t 10))])
  (.cond (.t 11) .skip (.exit 0)))
  (.seq [4, 3, 0] (.block 1 (.region [on 0 14 3,
 om 1 15 4,
 on 2 16 0,
 om 3 17 4,
 oa 4 18 (.indexA 1 (.t 16) (.t 17)),
 oa 5 19 (.loadH none (.t 18)),
 oc 6 20 s_laws_toStepS p_laws_toStepS D_laws_toStepS [(.t 19)],
 oa 7 21 (.indexA 1 (.t 14) (.t 15)),
 os 8 (.storeH 1 (.t 21) (.t 20))]))
  (.region [om 0 12 4,
 oa 1 13 (.bin .add (.t 12) (.c (.int .i64 1))),
 om 2 4 13]))))))
  (.seq [2] (.region [om 0 22 3,
 om 1 2 22])
  .ret))))
noncomputable def df_laws_toStepSS : DFun := ⟨1, 23, 0, false, [.tmp 2], dc_laws_toStepSS⟩
noncomputable def pf_laws_toStepSS : PFun := df_laws_toStepSS.er
noncomputable def f_laws_toStepSS : AFun := pf_laws_toStepSS.er
@[irreducible] noncomputable def s_laws_toStepSS : CallSem := funSem f_laws_toStepSS
@[irreducible] noncomputable def p_laws_toStepSS : PSem := pfunSem pf_laws_toStepSS
theorem sp_laws_toStepSS : SoundP s_laws_toStepSS p_laws_toStepSS := by unfold s_laws_toStepSS p_laws_toStepSS; exact pfun_sound (f := pf_laws_toStepSS) ⟨sp_laws_toStepS, trivial⟩
def h_laws_toStepSS : List HT := [.one .frz (.sl (.one (.sl (.cons (.int .i64) (.cons (.int .i64) (.one (.int .i64)))))))]
def q_laws_toStepSS : QT := .one (.one .own (.sl (.one (.sl (.cons (.int .i64) (.cons (.int .i64) (.one (.int .i64))))))))
@[irreducible] noncomputable def v_laws_toStepSS (x : List (List (Int × Int × Int))) : List (List (Int × Int × Int)) := fnV df_laws_toStepSS h_laws_toStepSS q_laws_toStepSS x
@[irreducible] noncomputable def ok_laws_toStepSS (x : List (List (Int × Int × Int))) : Prop := fnOk df_laws_toStepSS h_laws_toStepSS q_laws_toStepSS x
noncomputable def D_laws_toStepSS : DSem := DSemOf h_laws_toStepSS q_laws_toStepSS ok_laws_toStepSS v_laws_toStepSS
theorem ck_laws_toStepSS (x : List (List (Int × Int × Int))) : fnChk df_laws_toStepSS h_laws_toStepSS q_laws_toStepSS x = true := by kernel_rfl
theorem ob_laws_toStepSS : AllD df_laws_toStepSS.body.obs := ⟨sd_laws_toStepS, trivial⟩
theorem st_laws_toStepSS : fnSt df_laws_toStepSS h_laws_toStepSS q_laws_toStepSS = true := by kernel_rfl
theorem sd_laws_toStepSS : SoundD p_laws_toStepSS D_laws_toStepSS := by unfold p_laws_toStepSS; exact soundD_of (f := df_laws_toStepSS) (hs := h_laws_toStepSS) (q := q_laws_toStepSS) ob_laws_toStepSS st_laws_toStepSS ck_laws_toStepSS (fun x h => by unfold ok_laws_toStepSS at h; exact h) (fun x => by unfold v_laws_toStepSS; rfl)
noncomputable def dc_laws_toEngine : DCode :=
  (.seq [2, 1] (.region [oa 0 1 (.boxB 0 7 (.t 0)),
 oa 1 2 (.allocB 1 [(.int .i64 0), .nils, .nils, (.int .i64 0), .nils, (.int .i64 0), (.bool false)])])
  (.seq [3, 2, 1] (.region [oa 0 3 (.allocB 2 [(.int .i64 0), .nils, .nils, (.int .i64 0), .nils, (.int .i64 0), (.bool false)])])
  (.seq [3, 2, 1] (.region [oa 0 4 (.fieldA 0 (.t 1)),
 oa 1 5 (.loadB 0 (some 2) (.t 4)),
 oc 2 6 s_laws_toKeymap p_laws_toKeymap D_laws_toKeymap [(.t 5)],
 oa 3 7 (.fieldA 0 (.t 3)),
 os 4 (.storeB 2 2 (.t 7) (.t 6))])
  (.seq [3, 2, 1] (.region [oa 0 8 (.fieldA 2 (.t 1)),
 oa 1 9 (.loadB 0 none (.t 8)),
 oc 2 10 s_laws_toStepSS p_laws_toStepSS D_laws_toStepSS [(.t 9)],
 oa 3 11 (.fieldA 2 (.t 3)),
 os 4 (.storeB 2 1 (.t 11) (.t 10))])
  (.seq [3, 2, 1] (.region [oa 0 12 (.fieldA 3 (.t 1)),
 ob 1 13 (.loadB 0 none (.t 12)),
 oa 2 14 (.fieldA 3 (.t 3)),
 os 3 (.storeB 2 1 (.t 14) (.t 13))])
  (.seq [3, 2, 1] (.region [oa 0 15 (.fieldA 4 (.t 1)),
 oa 1 16 (.loadB 0 none (.t 15)),
 oc 2 17 s_laws_toHeldS p_laws_toHeldS D_laws_toHeldS [(.t 16)],
 oa 3 18 (.fieldA 4 (.t 3)),
 os 4 (.storeB 2 1 (.t 18) (.t 17))])
  (.seq [3, 2, 1] (.region [oa 0 19 (.fieldA 5 (.t 1)),
 ob 1 20 (.loadB 0 none (.t 19)),
 oa 2 21 (.fieldA 5 (.t 3)),
 os 3 (.storeB 2 1 (.t 21) (.t 20))])
  (.seq [3, 2] (.region [oa 0 22 (.fieldA 6 (.t 1)),
 ob 1 23 (.loadB 0 none (.t 22)),
 oa 2 24 (.fieldA 6 (.t 3)),
 os 3 (.storeB 2 1 (.t 24) (.t 23))])
  (.seq [2] (.region [ob 0 25 (.loadB 2 (some 7) (.t 3)),
 os 1 (.storeB 1 7 (.t 2) (.t 25))])
  .ret)))))))))
noncomputable def df_laws_toEngine : DFun := ⟨1, 26, 3, false, [.cell 2 (some 7)], dc_laws_toEngine⟩
noncomputable def pf_laws_toEngine : PFun := df_laws_toEngine.er
noncomputable def f_laws_toEngine : AFun := pf_laws_toEngine.er
@[irreducible] noncomputable def s_laws_toEngine : CallSem := funSem f_laws_toEngine
@[irreducible] noncomputable def p_laws_toEngine : PSem := pfunSem pf_laws_toEngine
theorem sp_laws_toEngine : SoundP s_laws_toEngine p_laws_toEngine := by unfold s_laws_toEngine p_laws_toEngine; exact pfun_sound (f := pf_laws_toEngine) ⟨sp_laws_toKeymap, sp_laws_toStepSS, sp_laws_toHeldS, trivial⟩
def h_laws_toEngine : List HT := [.agg [(.frz, .int .i64), (.frz, .sl (.one (.sl (.cons (.int .i64) (.cons (.int .i64) (.cons (.int .i64) (.one (.int .i64)))))))), (.frz, .sl (.one (.sl (.cons (.int .i64) (.cons (.int .i64) (.one (.int .i64))))))), (.frz, .int .i64), (.frz, .sl (.cons (.int .i64) (.cons (.int .i64) (.cons (.int .i64) (.cons (.int .i64) (.one (.int .i64))))))), (.frz, .int .i64), (.frz, .bool)]]
def q_laws_toEngine : QT := .one (.agg [(.own, .int .i64), (.own, .sl (.one (.sl (.cons (.int .i64) (.cons (.int .i64) (.cons (.int .i64) (.one (.int .i64)))))))), (.own, .sl (.one (.sl (.cons (.int .i64) (.cons (.int .i64) (.one (.int .i64))))))), (.own, .int .i64), (.own, .sl (.cons (.int .i64) (.cons (.int .i64) (.cons (.int .i64) (.cons (.int .i64) (.one (.int .i64))))))), (.own, .int .i64), (.own, .bool)])
@[irreducible] noncomputable def v_laws_toEngine (x : Int × (List (List (Int × Int × Int × Int))) × (List (List (Int × Int × Int))) × Int × (List (Int × Int × Int × Int × Int)) × Int × Bool) : Int × (List (List (Int × Int × Int × Int))) × (List (List (Int × Int × Int))) × Int × (List (Int × Int × Int × Int × Int)) × Int × Bool := fnV df_laws_toEngine h_laws_toEngine q_laws_toEngine x
@[irreducible] noncomputable def ok_laws_toEngine (x : Int × (List (List (Int × Int × Int × Int))) × (List (List (Int × Int × Int))) × Int × (List (Int × Int × Int × Int × Int)) × Int × Bool) : Prop := fnOk df_laws_toEngine h_laws_toEngine q_laws_toEngine x
noncomputable def D_laws_toEngine : DSem := DSemOf h_laws_toEngine q_laws_toEngine ok_laws_toEngine v_laws_toEngine
theorem ck_laws_toEngine (x : Int × (List (List (Int × Int × Int × Int))) × (List (List (Int × Int × Int))) × Int × (List (Int × Int × Int × Int × Int)) × Int × Bool) : fnChk df_laws_toEngine h_laws_toEngine q_laws_toEngine x = true := by kernel_rfl
theorem ob_laws_toEngine : AllD df_laws_toEngine.body.obs := ⟨sd_laws_toKeymap, sd_laws_toStepSS, sd_laws_toHeldS, trivial⟩
theorem st_laws_toEngine : fnSt df_laws_toEngine h_laws_toEngine q_laws_toEngine = true := by kernel_rfl
theorem sd_laws_toEngine : SoundD p_laws_toEngine D_laws_toEngine := by unfold p_laws_toEngine; exact soundD_of (f := df_laws_toEngine) (hs := h_laws_toEngine) (q := q_laws_toEngine) ob_laws_toEngine st_laws_toEngine ck_laws_toEngine (fun x h => by unfold ok_laws_toEngine at h; exact h) (fun x => by unfold v_laws_toEngine; rfl)
noncomputable def dc_spec_HeldAt : DCode :=
  (.seq [2, 1] (.region [oa 0 2 (.boxB 0 7 (.t 0)),
 oi 1 4 0])
  (.seq [] (.seq [5, 2, 1] (.region [oi 0 5 0])
  (.block 0 (.loop [1, 2, 5] 1 (.seq [5, 2, 1] (.seq [10, 5, 2, 1] (.region [om 0 6 5,
 oa 1 7 (.fieldA 4 (.t 2)),
 oa 2 8 (.loadB 0 none (.t 7)),
 oa 3 9 (.len (.t 8)),
 oa 4 10 (.bin .lss (.t 6) (.t 9))])
  (.cond (.t 10) .skip (.exit 0)))
  (.seq [5, 2, 1] (.block 1 (.seq [20, 5, 2, 1] (.region [oa 0 13 (.fieldA 4 (.t 2)),
 oa 1 14 (.loadB 0 none (.t 13)),
 om 2 15 5,
 oa 3 16 (.indexA 5 (.t 14) (.t 15)),
 oa 4 17 (.fieldA 0 (.t 16)),
 oa 5 18 (.loadH none (.t 17)),
 om 6 19 1,
 oa 7 20 (.bin .eql (.t 18) (.t 19))])
  (.cond (.t 20) (.seq [4] (.region [om 0 21 5,
 om 1 4 21])
  .ret) .skip)))
  (.region [om 0 11 5,
 oa 1 12 (.bin .add (.t 11) (.c (.int .i64 1))),
 om 2 5 12]))))))
  (.seq [4] (.region [oi 0 4 (-1)])
  .ret)))
noncomputable def df_spec_HeldAt : DFun := ⟨2, 22, 1, true, [.tmp 4], dc_spec_HeldAt⟩
noncomputable def pf_spec_HeldAt : PFun := df_spec_HeldAt.er
noncomputable def f_spec_HeldAt : AFun := pf_spec_HeldAt.er
@[irreducible] noncomputable def s_spec_HeldAt : CallSem := funSem f_spec_HeldAt
@[irreducible] noncomputable def p_spec_HeldAt : PSem := pfunSem pf_spec_HeldAt
theorem sp_spec_HeldAt : SoundP s_spec_HeldAt p_spec_HeldAt := by unfold s_spec_HeldAt p_spec_HeldAt; exact pfun_sound (f := pf_spec_HeldAt) trivial
def h_spec_HeldAt : List HT := [.agg [(.frz, .int .i64), (.frz, .sl (.one (.sl (.cons (.int .i64) (.cons (.int .i64) (.cons (.int .i64) (.one (.int .i64)))))))), (.frz, .sl (.one (.sl (.cons (.int .i64) (.cons (.int .i64) (.one (.int .i64))))))), (.frz, .int .i64), (.frz, .sl (.cons (.int .i64) (.cons (.int .i64) (.cons (.int .i64) (.cons (.int .i64) (.one (.int .i64))))))), (.frz, .int .i64), (.frz, .bool)], .one .frz (.int .i64)]
def q_spec_HeldAt : QT := .one (.one .own (.int .i64))
@[irreducible] noncomputable def v_spec_HeldAt (x : (Int × (List (List (Int × Int × Int × Int))) × (List (List (Int × Int × Int))) × Int × (List (Int × Int × Int × Int × Int)) × Int × Bool) × Int) : Int := fnV df_spec_HeldAt h_spec_HeldAt q_spec_HeldAt x
@[irreducible] noncomputable def ok_spec_HeldAt (x : (Int × (List (List (Int × Int × Int × Int))) × (List (List (Int × Int × Int))) × Int × (List (Int × Int × Int × Int × Int)) × Int × Bool) × Int) : Prop := fnOk df_spec_HeldAt h_spec_HeldAt q_spec_HeldAt x
noncomputable def D_spec_HeldAt : DSem := DSemOf h_spec_HeldAt q_spec_HeldAt ok_spec_HeldAt v_spec_HeldAt
theorem ck_spec_HeldAt (x : (Int × (List (List (Int × Int × Int × Int))) × (List (List (Int × Int × Int))) × Int × (List (Int × Int × Int × Int × Int)) × Int × Bool) × Int) : fnChk df_spec_HeldAt h_spec_HeldAt q_spec_HeldAt x = true := by kernel_rfl
theorem ob_spec_HeldAt : AllD df_spec_HeldAt.body.obs := trivial
theorem st_spec_HeldAt : fnSt df_spec_HeldAt h_spec_HeldAt q_spec_HeldAt = true := by kernel_rfl
theorem sd_spec_HeldAt : SoundD p_spec_HeldAt D_spec_HeldAt := by unfold p_spec_HeldAt; exact soundD_of (f := df_spec_HeldAt) (hs := h_spec_HeldAt) (q := q_spec_HeldAt) ob_spec_HeldAt st_spec_HeldAt ck_spec_HeldAt (fun x h => by unfold ok_spec_HeldAt at h; exact h) (fun x => by unfold v_spec_HeldAt; rfl)
noncomputable def dc_impl_HeldAt : DCode :=
  (.seq [2, 1] (.region [oa 0 2 (.boxB 0 7 (.t 0)),
 oi 1 4 0])
  (.seq [] (.seq [10, 9, 8, 1] (.region [oa 0 7 (.fieldA 4 (.t 2)),
 oa 1 8 (.loadB 0 none (.t 7)),
 oa 2 9 (.len (.t 8)),
 oi 3 10 0])
  (.block 0 (.loop [1, 8, 9, 10] 1 (.seq [11, 10, 9, 8, 1] (.region [oa 0 11 (.bin .lss (.t 10) (.t 9))])
  (.seq [10, 9, 8, 1] (.cond (.t 11) .skip (.exit 0))
  (.seq [10, 9, 8, 1] (.block 1 (.seq [10, 9, 8, 6, 5, 1] (.region [om 0 12 10,
 oa 1 13 (.indexA 5 (.t 8) (.t 10)),
 ob 2 14 (.loadH (some 5) (.t 13)),
 oa 3 6 (.allocB 1 [(.int .i64 0), (.int .i64 0), (.int .i64 0), (.int .i64 0), (.int .i64 0)]),
 om 4 5 12,
 os 5 (.storeB 1 5 (.t 6) (.t 14))])
  (.seq [18, 10, 9, 8, 5, 1] (.region [oa 0 15 (.fieldA 0 (.t 6)),
 oa 1 16 (.loadB 1 none (.t 15)),
 om 2 17 1,
 oa 3 18 (.bin .eql (.t 16) (.t 17))])
  (.cond (.t 18) (.seq [4] (.region [om 0 19 5,
 om 1 4 19])
  .ret) .skip))))
  (.region [oa 0 20 (.bin .add (.t 10) (.c (.int .i64 1))),
 om 1 10 20])))))))
  (.seq [4] (.region [oi 0 4 (-1)])
  .ret)))
noncomputable def df_impl_HeldAt : DFun := ⟨2, 21, 2, true, [.tmp 4], dc_impl_HeldAt⟩
noncomputable def pf_impl_HeldAt : PFun := df_impl_HeldAt.er
noncomputable def f_impl_HeldAt : AFun := pf_impl_HeldAt.er
@[irreducible] noncomputable def s_impl_HeldAt : CallSem := funSem f_impl_HeldAt
@[irreducible] noncomputable def p_impl_HeldAt : PSem := pfunSem pf_impl_HeldAt
theorem sp_impl_HeldAt : SoundP s_impl_HeldAt p_impl_HeldAt := by unfold s_impl_HeldAt p_impl_HeldAt; exact pfun_sound (f := pf_impl_HeldAt) trivial
def h_impl_HeldAt : List HT := [.agg [(.frz, .int .i64), (.frz, .sl (.one (.sl (.cons (.int .i64) (.cons (.int .i64) (.cons (.int .i64) (.one (.int .i64)))))))), (.frz, .sl (.one (.sl (.cons (.int .i64) (.cons (.int .i64) (.one (.int .i64))))))), (.frz, .int .i64), (.frz, .sl (.cons (.int .i64) (.cons (.int .i64) (.cons (.int .i64) (.cons (.int .i64) (.one (.int .i64))))))), (.frz, .int .i64), (.frz, .bool)], .one .frz (.int .i64)]
def q_impl_HeldAt : QT := .one (.one .own (.int .i64))
@[irreducible] noncomputable def v_impl_HeldAt (x : (Int × (List (List (Int × Int × Int × Int))) × (List (List (Int × Int × Int))) × Int × (List (Int × Int × Int × Int × Int)) × Int × Bool) × Int) : Int := fnV df_impl_HeldAt h_impl_HeldAt q_impl_HeldAt x
@[irreducible] noncomputable def ok_impl_HeldAt (x : (Int × (List (List (Int × Int × Int × Int))) × (List (List (Int × Int × Int))) × Int × (List (Int × Int × Int × Int × Int)) × Int × Bool) × Int) : Prop := fnOk df_impl_HeldAt h_impl_HeldAt q_impl_HeldAt x
noncomputable def D_impl_HeldAt : DSem := DSemOf h_impl_HeldAt q_impl_HeldAt ok_impl_HeldAt v_impl_HeldAt
theorem ck_impl_HeldAt (x : (Int × (List (List (Int × Int × Int × Int))) × (List (List (Int × Int × Int))) × Int × (List (Int × Int × Int × Int × Int)) × Int × Bool) × Int) : fnChk df_impl_HeldAt h_impl_HeldAt q_impl_HeldAt x = true := by kernel_rfl
theorem ob_impl_HeldAt : AllD df_impl_HeldAt.body.obs := trivial
theorem st_impl_HeldAt : fnSt df_impl_HeldAt h_impl_HeldAt q_impl_HeldAt = true := by kernel_rfl
theorem sd_impl_HeldAt : SoundD p_impl_HeldAt D_impl_HeldAt := by unfold p_impl_HeldAt; exact soundD_of (f := df_impl_HeldAt) (hs := h_impl_HeldAt) (q := q_impl_HeldAt) ob_impl_HeldAt st_impl_HeldAt ck_impl_HeldAt (fun x h => by unfold ok_impl_HeldAt at h; exact h) (fun x => by unfold v_impl_HeldAt; rfl)
noncomputable def dc_laws_eqStep : DCode :=
  (.seq [3, 2] (.region [oa 0 2 (.boxB 0 3 (.t 0)),
 oa 1 3 (.boxB 1 3 (.t 1)),
 oa 2 4 (.mv (.c (.bool false)))])
  (.seq [3, 2] (.seq [9, 3, 2] (.region [oa 0 5 (.fieldA 0 (.t 2)),
 oa 1 6 (.loadB 0 none (.t 5)),
 oa 2 7 (.fieldA 0 (.t 3)),
 oa 3 8 (.loadB 1 none (.t 7)),
 oa 4 9 (.bin .neq (.t 6) (.t 8))])
  (.cond (.t 9) (.seq [4] (.region [oa 0 4 (.mv (.c (.bool false)))])
  .ret) .skip))
  (.seq [3, 2] (.seq [14, 3, 2] (.region [oa 0 10 (.fieldA 1 (.t 2)),
 oa 1 11 (.loadB 0 none (.t 10)),
 oa 2 12 (.fieldA 1 (.t 3)),
 oa 3 13 (.loadB 1 none (.t 12)),
 oa 4 14 (.bin .neq (.t 11) (.t 13))])
  (.cond (.t 14) (.seq [4] (.region [oa 0 4 (.mv (.c (.bool false)))])
  .ret) .skip))
  (.seq [] (.seq [19] (.region [oa 0 15 (.fieldA 2 (.t 2)),
 oa 1 16 (.loadB 0 none (.t 15)),
 oa 2 17 (.fieldA 2 (.t 3)),
 oa 3 18 (.loadB 1 none (.t 17)),
 oa 4 19 (.bin .neq (.t 16) (.t 18))])
  (.cond (.t 19) (.seq [4] (.region [oa 0 4 (.mv (.c (.bool false)))])
  .ret) .skip))
  (.seq [4] (.region [oa 0 4 (.mv (.c (.bool true)))])
  .ret)))))
noncomputable def df_laws_eqStep : DFun := ⟨2, 20, 2, true, [.tmp 4], dc_laws_eqStep⟩
noncomputable def pf_laws_eqStep : PFun := df_laws_eqStep.er
noncomputable def f_laws_eqStep : AFun := pf_laws_eqStep.er
@[irreducible] noncomputable def s_laws_eqStep : CallSem := funSem f_laws_eqStep
@[irreducible] noncomputable def p_laws_eqStep : PSem := pfunSem pf_laws_eqStep
theorem sp_laws_eqStep : SoundP s_laws_eqStep p_laws_eqStep := by unfold s_laws_eqStep p_laws_eqStep; exact pfun_sound (f := pf_laws_eqStep) trivial
def h_laws_eqStep : List HT := [.agg [(.frz, .int .i64), (.frz, .int .i64), (.frz, .int .i64)], .agg [(.frz, .int .i64), (.frz, .int .i64), (.frz, .int .i64)]]
def q_laws_eqStep : QT := .one (.one .own (.bool))
@[irreducible] noncomputable def v_laws_eqStep (x : (Int × Int × Int) × (Int × Int × Int)) : Bool := fnV df_laws_eqStep h_laws_eqStep q_laws_eqStep x
@[irreducible] noncomputable def ok_laws_eqStep (x : (Int × Int × Int) × (Int × Int × Int)) : Prop := fnOk df_laws_eqStep h_laws_eqStep q_laws_eqStep x
noncomputable def D_laws_eqStep : DSem := DSemOf h_laws_eqStep q_laws_eqStep ok_laws_eqStep v_laws_eqStep
theorem ck_laws_eqStep (x : (Int × Int × Int) × (Int × Int × Int)) : fnChk df_laws_eqStep h_laws_eqStep q_laws_eqStep x = true := by kernel_rfl
theorem ob_laws_eqStep : AllD df_laws_eqStep.body.obs := trivial
theorem st_laws_eqStep : fnSt df_laws_eqStep h_laws_eqStep q_laws_eqStep = true := by kernel_rfl
theorem sd_laws_eqStep : SoundD p_laws_eqStep D_laws_eqStep := by unfold p_laws_eqStep; exact soundD_of (f := df_laws_eqStep) (hs := h_laws_eqStep) (q := q_laws_eqStep) ob_laws_eqStep st_laws_eqStep ck_laws_eqStep (fun x h => by unfold ok_laws_eqStep at h; exact h) (fun x => by unfold v_laws_eqStep; rfl)
noncomputable def dc_laws_eqStepS : DCode :=
  (.seq [1, 0] (.region [oa 0 4 (.mv (.c (.bool false)))])
  (.seq [1, 0] (.seq [10, 1, 0] (.region [on 0 6 0,
 oa 1 7 (.len (.t 6)),
 on 2 8 1,
 oa 3 9 (.len (.t 8)),
 oa 4 10 (.bin .neq (.t 7) (.t 9))])
  (.cond (.t 10) (.seq [4] (.region [oa 0 4 (.mv (.c (.bool false)))])
  .ret) .skip))
  (.seq [] (.seq [5, 1, 0] (.region [oi 0 5 0])
  (.block 0 (.loop [0, 1, 5] 1 (.seq [5, 1, 0] (.seq [14, 5, 1, 0] (.region [om 0 11 5,
 on 1 12 0,
 oa 2 13 (.len (.t 12)),
 oa 3 14 (.bin .lss (.t 11) (.t 13))])
  (.cond (.t 14) .skip (.exit 0)))
  (.seq [5, 1, 0] (.block 1 (.seq [26, 5, 1, 0] (.region [on 0 17 0,
 om 1 18 5,
 xA 2 19 (.indexA 3 (.t 17) (.t 18)) (rg 2),
 xA 3 20 (.loadH (some 3) (.t 19)) (rg 3),
 on 4 21 1,
 om 5 22 5,
 xA 6 23 (.indexA 3 (.t 21) (.t 22)) [4, 5],
 xA 7 24 (.loadH (some 3) (.t 23)) [4, 5, 6],
 xC 8 25 s_laws_eqStep p_laws_eqStep D_laws_eqStep [(.t 20), (.t 24)] (rg 8),
 xA 9 26 (.un .not (.t 25)) (rg 9)])
  (.cond (.t 26) (.seq [4] (.region [oa 0 4 (.mv (.c (.bool false)))])
  .ret) .skip)))
  (.region [om 0 15 5,
 oa 1 16 (.bin .add (.t 15) (.c (.int .i64 1))),
 om 2 5 16]))))))
  (.seq [4] (.region [oa 0 4 (.mv (.c (.bool true)))])
  .ret))))
noncomputable def df_laws_eqStepS : DFun := ⟨2, 27, 0, true, [.tmp 4], dc_laws_eqStepS⟩
noncomputable def pf_laws_eqStepS : PFun := df_laws_eqStepS.er
noncomputable def f_laws_eqStepS : AFun := pf_laws_eqStepS.er
@[irreducible] noncomputable def s_laws_eqStepS : CallSem := funSem f_laws_eqStepS
@[irreducible] noncomputable def p_laws_eqStepS : PSem := pfunSem pf_laws_eqStepS
theorem sp_laws_eqStepS : SoundP s_laws_eqStepS p_laws_eqStepS := by unfold s_laws_eqStepS p_laws_eqStepS; exact pfun_sound (f := pf_laws_eqStepS) ⟨sp_laws_eqStep, trivial⟩
def h_laws_eqStepS : List HT := [.one .frz (.sl (.cons (.int .i64) (.cons (.int .i64) (.one (.int .i64))))), .one .frz (.sl (.cons (.int .i64) (.cons (.int .i64) (.one (.int .i64)))))]
def q_laws_eqStepS : QT := .one (.one .own (.bool))
@[irreducible] noncomputable def v_laws_eqStepS (x : (List (Int × Int × Int)) × (List (Int × Int × Int))) : Bool := fnV df_laws_eqStepS h_laws_eqStepS q_laws_eqStepS x
@[irreducible] noncomputable def ok_laws_eqStepS (x : (List (Int × Int × Int)) × (List (Int × Int × Int))) : Prop := fnOk df_laws_eqStepS h_laws_eqStepS q_laws_eqStepS x
noncomputable def D_laws_eqStepS : DSem := DSemOf h_laws_eqStepS q_laws_eqStepS ok_laws_eqStepS v_laws_eqStepS
theorem ck_laws_eqStepS (x : (List (Int × Int × Int)) × (List (Int × Int × Int))) : fnChk df_laws_eqStepS h_laws_eqStepS q_laws_eqStepS x = true := by kernel_rfl
theorem ob_laws_eqStepS : AllD df_laws_eqStepS.body.obs := ⟨sd_laws_eqStep, trivial⟩
theorem st_laws_eqStepS : fnSt df_laws_eqStepS h_laws_eqStepS q_laws_eqStepS = true := by kernel_rfl
theorem sd_laws_eqStepS : SoundD p_laws_eqStepS D_laws_eqStepS := by unfold p_laws_eqStepS; exact soundD_of (f := df_laws_eqStepS) (hs := h_laws_eqStepS) (q := q_laws_eqStepS) ob_laws_eqStepS st_laws_eqStepS ck_laws_eqStepS (fun x h => by unfold ok_laws_eqStepS at h; exact h) (fun x => by unfold v_laws_eqStepS; rfl)
noncomputable def dc_laws_eqStepSS : DCode :=
  (.seq [1, 0] (.region [oa 0 4 (.mv (.c (.bool false)))])
  (.seq [1, 0] (.seq [10, 1, 0] (.region [on 0 6 0,
 oa 1 7 (.len (.t 6)),
 on 2 8 1,
 oa 3 9 (.len (.t 8)),
 oa 4 10 (.bin .neq (.t 7) (.t 9))])
  (.cond (.t 10) (.seq [4] (.region [oa 0 4 (.mv (.c (.bool false)))])
  .ret) .skip))
  (.seq [] (.seq [5, 1, 0] (.region [oi 0 5 0])
  (.block 0 (.loop [0, 1, 5] 1 (.seq [5, 1, 0] (.seq [14, 5, 1, 0] (.region [om 0 11 5,
 on 1 12 0,
 oa 2 13 (.len (.t 12)),
 oa 3 14 (.bin .lss (.t 11) (.t 13))])
  (.cond (.t 14) .skip (.exit 0)))
  (.seq [5, 1, 0] (.block 1 (.seq [26, 5, 1, 0] (.region [on 0 17 0,
 om 1 18 5,
 xA 2 19 (.indexA 1 (.t 17) (.t 18)) (rg 2),
 xA 3 20 (.loadH none (.t 19)) (rg 3),
 on 4 21 1,
 om 5 22 5,
 xA 6 23 (.indexA 1 (.t 21) (.t 22)) [4, 5],
 xA 7 24 (.loadH none (.t 23)) [4, 5, 6],
 xC 8 25 s_laws_eqStepS p_laws_eqStepS D_laws_eqStepS [(.t 20), (.t 24)] (rg 8),
 xA 9 26 (.un .not (.t 25)) (rg 9)])
  (.cond (.t 26) (.seq [4] (.region [oa 0 4 (.mv (.c (.bool false)))])
  .ret) .skip)))
  (.region [om 0 15 5,
 oa 1 16 (.bin .add (.t 15) (.c (.int .i64 1))),
 om 2 5 16]))))))
  (.seq [4] (.region [oa 0 4 (.mv (.c (.bool true)))])
  .ret))))
noncomputable def df_laws_eqStepSS : DFun := ⟨2, 27, 0, true, [.tmp 4], dc_laws_eqStepSS⟩
noncomputable def pf_laws_eqStepSS : PFun := df_laws_eqStepSS.er
noncomputable def f_laws_eqStepSS : AFun := pf_laws_eqStepSS.er
@[irreducible] noncomputable def s_laws_eqStepSS : CallSem := funSem f_laws_eqStepSS
@[irreducible] noncomputable def p_laws_eqStepSS : PSem := pfunSem pf_laws_eqStepSS
theorem sp_laws_eqStepSS : SoundP s_laws_eqStepSS p_laws_eqStepSS := by unfold s_laws_eqStepSS p_laws_eqStepSS; exact pfun_sound (f := pf_laws_eqStepSS) ⟨sp_laws_eqStepS, trivial⟩
def h_laws_eqStepSS : List HT := [.one .frz (.sl (.one (.sl (.cons (.int .i64) (.cons (.int .i64) (.one (.int .i64))))))), .one .frz (.sl (.one (.sl (.cons (.int .i64) (.cons (.int .i64) (.one (.int .i64)))))))]
def q_laws_eqStepSS : QT := .one (.one .own (.bool))
@[irreducible] noncomputable def v_laws_eqStepSS (x : (List (List (Int × Int × Int))) × (List (List (Int × Int × Int)))) : Bool := fnV df_laws_eqStepSS h_laws_eqStepSS q_laws_eqStepSS x
@[irreducible] noncomputable def ok_laws_eqStepSS (x : (List (List (Int × Int × Int))) × (List (List (Int × Int × Int)))) : Prop := fnOk df_laws_eqStepSS h_laws_eqStepSS q_laws_eqStepSS x
noncomputable def D_laws_eqStepSS : DSem := DSemOf h_laws_eqStepSS q_laws_eqStepSS ok_laws_eqStepSS v_laws_eqStepSS
theorem ck_laws_eqStepSS (x : (List (List (Int × Int × Int))) × (List (List (Int × Int × Int)))) : fnChk df_laws_eqStepSS h_laws_eqStepSS q_laws_eqStepSS x = true := by kernel_rfl
theorem ob_laws_eqStepSS : AllD df_laws_eqStepSS.body.obs := ⟨sd_laws_eqStepS, trivial⟩
theorem st_laws_eqStepSS : fnSt df_laws_eqStepSS h_laws_eqStepSS q_laws_eqStepSS = true := by kernel_rfl
theorem sd_laws_eqStepSS : SoundD p_laws_eqStepSS D_laws_eqStepSS := by unfold p_laws_eqStepSS; exact soundD_of (f := df_laws_eqStepSS) (hs := h_laws_eqStepSS) (q := q_laws_eqStepSS) ob_laws_eqStepSS st_laws_eqStepSS ck_laws_eqStepSS (fun x h => by unfold ok_laws_eqStepSS at h; exact h) (fun x => by unfold v_laws_eqStepSS; rfl)
noncomputable def dc_laws_eqEngine : DCode :=
  (.seq [3, 2] (.region [oa 0 2 (.boxB 0 7 (.t 0)),
 oa 1 3 (.boxB 1 7 (.t 1)),
 oa 2 4 (.mv (.c (.bool false)))])
  (.seq [3, 2] (.seq [10, 3, 2] (.region [oa 0 5 (.fieldA 0 (.t 2)),
 oa 1 6 (.loadB 0 (some 2) (.t 5)),
 oa 2 7 (.fieldA 0 (.t 3)),
 oa 3 8 (.loadB 1 (some 2) (.t 7)),
 oc 4 9 s_laws_eqKeymap p_laws_eqKeymap D_laws_eqKeymap [(.t 6), (.t 8)],
 oa 5 10 (.un .not (.t 9))])
  (.cond (.t 10) (.seq [4] (.region [oa 0 4 (.mv (.c (.bool false)))])
  .ret) .skip))
  (.seq [3, 2] (.seq [16, 3, 2] (.region [oa 0 11 (.fieldA 2 (.t 2)),
 oa 1 12 (.loadB 0 none (.t 11)),
 oa 2 13 (.fieldA 2 (.t 3)),
 oa 3 14 (.loadB 1 none (.t 13)),
 oc 4 15 s_laws_eqStepSS p_laws_eqStepSS D_laws_eqStepSS [(.t 12), (.t 14)],
 oa 5 16 (.un .not (.t 15))])
  (.cond (.t 16) (.seq [4] (.region [oa 0 4 (.mv (.c (.bool false)))])
  .ret) .skip))
  (.seq [3, 2] (.seq [21, 3, 2] (.region [oa 0 17 (.fieldA 3 (.t 2)),
 oa 1 18 (.loadB 0 none (.t 17)),
 oa 2 19 (.fieldA 3 (.t 3)),
 oa 3 20 (.loadB 1 none (.t 19)),
 oa 4 21 (.bin .neq (.t 18) (.t 20))])
  (.cond (.t 21) (.seq [4] (.region [oa 0 4 (.mv (.c (.bool false)))])
  .ret) .skip))
  (.seq [3, 2] (.seq [27, 3, 2] (.region [oa 0 22 (.fieldA 4 (.t 2)),
 oa 1 23 (.loadB 0 none (.t 22)),
 oa 2 24 (.fieldA 4 (.t 3)),
 oa 3 25 (.loadB 1 none (.t 24)),
 oc 4 26 s_laws_eqHeldS p_laws_eqHeldS D_laws_eqHeldS [(.t 23), (.t 25)],
 oa 5 27 (.un .not (.t 26))])
  (.cond (.t 27) (.seq [4] (.region [oa 0 4 (.mv (.c (.bool false)))])
  .ret) .skip))
  (.seq [3, 2] (.seq [32, 3, 2] (.region [oa 0 28 (.fieldA 5 (.t 2)),
 oa 1 29 (.loadB 0 none (.t 28)),
 oa 2 30 (.fieldA 5 (.t 3)),
 oa 3 31 (.loadB 1 none (.t 30)),
 oa 4 32 (.bin .neq (.t 29) (.t 31))])
  (.cond (.t 32) (.seq [4] (.region [oa 0 4 (.mv (.c (.bool false)))])
  .ret) .skip))
  (.seq [] (.seq [37] (.region [oa 0 33 (.fieldA 6 (.t 2)),
 oa 1 34 (.loadB 0 none (.t 33)),
 oa 2 35 (.fieldA 6 (.t 3)),
 oa 3 36 (.loadB 1 none (.t 35)),
 oa 4 37 (.eqB true (.t 34) (.t 36))])
  (.cond (.t 37) (.seq [4] (.region [oa 0 4 (.mv (.c (.bool false)))])
  .ret) .skip))
  (.seq [4] (.region [oa 0 4 (.mv (.c (.bool true)))])
  .ret))))))))
noncomputable def df_laws_eqEngine : DFun := ⟨2, 38, 2, true, [.tmp 4], dc_laws_eqEngine⟩
noncomputable def pf_laws_eqEngine : PFun := df_laws_eqEngine.er
noncomputable def f_laws_eqEngine : AFun := pf_laws_eqEngine.er
@[irreducible] noncomputable def s_laws_eqEngine : CallSem := funSem f_laws_eqEngine
@[irreducible] noncomputable def p_laws_eqEngine : PSem := pfunSem pf_laws_eqEngine
theorem sp_laws_eqEngine : SoundP s_laws_eqEngine p_laws_eqEngine := by unfold s_laws_eqEngine p_laws_eqEngine; exact pfun_sound (f := pf_laws_eqEngine) ⟨sp_laws_eqKeymap, sp_laws_eqStepSS, sp_laws_eqHeldS, trivial⟩
def h_laws_eqEngine : List HT := [.agg [(.frz, .int .i64), (.frz, .sl (.one (.sl (.cons (.int .i64) (.cons (.int .i64) (.cons (.int .i64) (.one (.int .i64)))))))), (.frz, .sl (.one (.sl (.cons (.int .i64) (.cons (.int .i64) (.one (.int .i64))))))), (.frz, .int .i64), (.frz, .sl (.cons (.int .i64) (.cons (.int .i64) (.cons (.int .i64) (.cons (.int .i64) (.one (.int .i64))))))), (.frz, .int .i64), (.frz, .bool)], .agg [(.frz, .int .i64), (.frz, .sl (.one (.sl (.cons (.int .i64) (.cons (.int .i64) (.cons (.int .i64) (.one (.int .i64)))))))), (.frz, .sl (.one (.sl (.cons (.int .i64) (.cons (.int .i64) (.one (.int .i64))))))), (.frz, .int .i64), (.frz, .sl (.cons (.int .i64) (.cons (.int .i64) (.cons (.int .i64) (.cons (.int .i64) (.one (.int .i64))))))), (.frz, .int .i64), (.frz, .bool)]]
def q_laws_eqEngine : QT := .one (.one .own (.bool))
@[irreducible] noncomputable def v_laws_eqEngine (x : (Int × (List (List (Int × Int × Int × Int))) × (List (List (Int × Int × Int))) × Int × (List (Int × Int × Int × Int × Int)) × Int × Bool) × (Int × (List (List (Int × Int × Int × Int))) × (List (List (Int × Int × Int))) × Int × (List (Int × Int × Int × Int × Int)) × Int × Bool)) : Bool := fnV df_laws_eqEngine h_laws_eqEngine q_laws_eqEngine x
@[irreducible] noncomputable def ok_laws_eqEngine (x : (Int × (List (List (Int × Int × Int × Int))) × (List (List (Int × Int × Int))) × Int × (List (Int × Int × Int × Int × Int)) × Int × Bool) × (Int × (List (List (Int × Int × Int × Int))) × (List (List (Int × Int × Int))) × Int × (List (Int × Int × Int × Int × Int)) × Int × Bool)) : Prop := fnOk df_laws_eqEngine h_laws_eqEngine q_laws_eqEngine x
noncomputable def D_laws_eqEngine : DSem := DSemOf h_laws_eqEngine q_laws_eqEngine ok_laws_eqEngine v_laws_eqEngine
theorem ck_laws_eqEngine (x : (Int × (List (List (Int × Int × Int × Int))) × (List (List (Int × Int × Int))) × Int × (List (Int × Int × Int × Int × Int)) × Int × Bool) × (Int × (List (List (Int × Int × Int × Int))) × (List (List (Int × Int × Int))) × Int × (List (Int × Int × Int × Int × Int)) × Int × Bool)) : fnChk df_laws_eqEngine h_laws_eqEngine q_laws_eqEngine x = true := by kernel_rfl
theorem ob_laws_eqEngine : AllD df_laws_eqEngine.body.obs := ⟨sd_laws_eqKeymap, sd_laws_eqStepSS, sd_laws_eqHeldS, trivial⟩
theorem st_laws_eqEngine : fnSt df_laws_eqEngine h_laws_eqEngine q_laws_eqEngine = true := by kernel_rfl
theorem sd_laws_eqEngine : SoundD p_laws_eqEngine D_laws_eqEngine := by unfold p_laws_eqEngine; exact soundD_of (f := df_laws_eqEngine) (hs := h_laws_eqEngine) (q := q_laws_eqEngine) ob_laws_eqEngine st_laws_eqEngine ck_laws_eqEngine (fun x h => by unfold ok_laws_eqEngine at h; exact h) (fun x => by unfold v_laws_eqEngine; rfl)
noncomputable def dc_laws_FnExactHeldAt : DCode :=
  (.seq [2, 1] (.region [oa 0 2 (.boxB 0 7 (.t 0)),
 oa 1 4 (.mv (.c (.bool false)))])
  (.seq [5, 2, 1] (.region [oi 0 5 1048576])
  (.seq [5, 2, 1] (.region [oa 0 9 (.loadB 0 (some 7) (.t 2)),
 om 1 10 5,
 oc 2 11 s_laws_szEngine p_laws_szEngine D_laws_szEngine [(.t 9), (.t 10)],
 om 3 5 11])
  (.seq [2, 1] (.seq [13, 2, 1] (.region [om 0 12 5,
 oa 1 13 (.bin .lss (.t 12) (.c (.int .i64 0)))])
  (.cond (.t 13) (.seq [4] (.region [oa 0 4 (.mv (.c (.bool true)))])
  .ret) .skip))
  (.seq [6, 2, 1] (.region [oa 0 14 (.loadB 0 (some 7) (.t 2)),
 oc 1 15 s_laws_toEngine p_laws_toEngine D_laws_toEngine [(.t 14)],
 om 2 16 1,
 oc 3 17 s_spec_HeldAt p_spec_HeldAt D_spec_HeldAt [(.t 15), (.t 16)],
 om 4 6 17])
  (.seq [7, 6, 2, 1] (.region [oa 0 18 (.loadB 0 (some 7) (.t 2)),
 oc 1 19 s_laws_toEngine p_laws_toEngine D_laws_toEngine [(.t 18)],
 oa 2 7 (.allocB 1 [(.int .i64 0), .nils, .nils, (.int .i64 0), .nils, (.int .i64 0), (.bool false)]),
 os 3 (.storeB 1 7 (.t 7) (.t 19))])
  (.seq [8, 7, 6, 2] (.region [oa 0 20 (.loadB 1 (some 7) (.t 7)),
 om 1 21 1,
 oc 2 22 s_impl_HeldAt p_impl_HeldAt D_impl_HeldAt [(.t 20), (.t 21)],
 om 3 8 22])
  (.seq [7, 2] (.seq [25, 7, 2] (.region [om 0 23 8,
 om 1 24 6,
 oa 2 25 (.bin .neq (.t 23) (.t 24))])
  (.cond (.t 25) (.seq [4] (.region [oa 0 4 (.mv (.c (.bool false)))])
  .ret) .skip))
  (.seq [] (.seq [30] (.region [oa 0 26 (.loadB 1 (some 7) (.t 7)),
 oa 1 27 (.loadB 0 (some 7) (.t 2)),
 xC 2 28 s_laws_toEngine p_laws_toEngine D_laws_toEngine [(.t 27)] [1],
 xC 3 29 s_laws_eqEngine p_laws_eqEngine D_laws_eqEngine [(.t 26), (.t 28)] (rg 3),
 xA 4 30 (.un .not (.t 29)) (rg 4)])
  (.cond (.t 30) (.seq [4] (.region [oa 0 4 (.mv (.c (.bool false)))])
  .ret) .skip))
  (.seq [4] (.region [oa 0 4 (.mv (.c (.bool true)))])
  .ret))))))))))
noncomputable def df_laws_FnExactHeldAt : DFun := ⟨2, 31, 2, true, [.tmp 4], dc_laws_FnExactHeldAt⟩
noncomputable def pf_laws_FnExactHeldAt : PFun := df_laws_FnExactHeldAt.er
noncomputable def f_laws_FnExactHeldAt : AFun := pf_laws_FnExactHeldAt.er
@[irreducible] noncomputable def s_laws_FnExactHeldAt : CallSem := funSem f_laws_FnExactHeldAt
@[irreducible] noncomputable def p_laws_FnExactHeldAt : PSem := pfunSem pf_laws_FnExactHeldAt
theorem sp_laws_FnExactHeldAt : SoundP s_laws_FnExactHeldAt p_laws_FnExactHeldAt := by unfold s_laws_FnExactHeldAt p_laws_FnExactHeldAt; exact pfun_sound (f := pf_laws_FnExactHeldAt) ⟨sp_laws_szEngine, sp_laws_toEngine, sp_spec_HeldAt, sp_laws_toEngine, sp_impl_HeldAt, sp_laws_toEngine, sp_laws_eqEngine, trivial⟩
def h_laws_FnExactHeldAt : List HT := [.agg [(.frz, .int .i64), (.frz, .sl (.one (.sl (.cons (.int .i64) (.cons (.int .i64) (.cons (.int .i64) (.one (.int .i64)))))))), (.frz, .sl (.one (.sl (.cons (.int .i64) (.cons (.int .i64) (.one (.int .i64))))))), (.frz, .int .i64), (.frz, .sl (.cons (.int .i64) (.cons (.int .i64) (.cons (.int .i64) (.cons (.int .i64) (.one (.int .i64))))))), (.frz, .int .i64), (.frz, .bool)], .one .frz (.int .i64)]
def q_laws_FnExactHeldAt : QT := .one (.one .own (.bool))
@[irreducible] noncomputable def v_laws_FnExactHeldAt (x : (Int × (List (List (Int × Int × Int × Int))) × (List (List (Int × Int × Int))) × Int × (List (Int × Int × Int × Int × Int)) × Int × Bool) × Int) : Bool := fnV df_laws_FnExactHeldAt h_laws_FnExactHeldAt q_laws_FnExactHeldAt x
@[irreducible] noncomputable def ok_laws_FnExactHeldAt (x : (Int × (List (List (Int × Int × Int × Int))) × (List (List (Int × Int × Int))) × Int × (List (Int × Int × Int × Int × Int)) × Int × Bool) × Int) : Prop := fnOk df_laws_FnExactHeldAt h_laws_FnExactHeldAt q_laws_FnExactHeldAt x
theorem ck_laws_FnExactHeldAt (x : (Int × (List (List (Int × Int × Int × Int))) × (List (List (Int × Int × Int))) × Int × (List (Int × Int × Int × Int × Int)) × Int × Bool) × Int) : fnChk df_laws_FnExactHeldAt h_laws_FnExactHeldAt q_laws_FnExactHeldAt x = true := by kernel_rfl
theorem ob_laws_FnExactHeldAt : AllD df_laws_FnExactHeldAt.body.obs := ⟨sd_laws_szEngine, sd_laws_toEngine, sd_spec_HeldAt, sd_laws_toEngine, sd_impl_HeldAt, sd_laws_toEngine, sd_laws_eqEngine, trivial⟩
theorem st_laws_FnExactHeldAt : fnSt df_laws_FnExactHeldAt h_laws_FnExactHeldAt q_laws_FnExactHeldAt = true := by kernel_rfl
end
end Go.Ag
