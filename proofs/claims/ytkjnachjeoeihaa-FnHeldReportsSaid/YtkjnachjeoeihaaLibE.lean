/- Part 5 of what FnHeldReports needs. No conditions. -/
import Derived.WalkKit
import Derived.ProofKit
import Derived.OpenShut
import Derived.Carry
import Derived.ChangeSame
import Derived.Attr
import Derived.Sort.Row
import Derived.Sort.Grow
import Derived.Test.YtkjnachjeoeihaaLibD
namespace Go.Ag
set_option linter.unusedSimpArgs false
set_option linter.unusedVariables false
theorem PX.land_den : ∀ (a b : PX), (a.land b).den ↔ a.den ∧ b.den
  | .tt, b => by simp [PX.land, PX.den]
  | .ff, b => by simp [PX.land, PX.den]
  | .p h, b => by cases b <;> simp [PX.land, PX.den]
  | .and x y, b => by cases b <;> simp [PX.land, PX.den]
  | .ite c x y, b => by cases b <;> simp [PX.land, PX.den]
theorem PX.if_den (c : Bool) (a b : PX) : (PX.if' c a b).den ↔ (c = true → a.den) ∧ (c = false → b.den) := by
  cases a <;> cases b <;> simp [PX.if', PX.den]
def AExit.isN : AExit → Bool
  | .normal => true
  | _ => false
def DT.lf : DT → Option (AExit × DS)
  | .leaf e st => some (e, st)
  | .node c a b => (match c with | true => a.lf | false => b.lf)
  | .chk _ t => t.lf
  | .bad => none
def DT.All (P : DS → Prop) : DT → Prop
  | .leaf _ st => P st
  | .node _ a b => a.All P ∧ b.All P
  | .chk _ t => t.All P
  | .bad => True
theorem DT.All.imp {P Q : DS → Prop} (h : ∀ st, P st → Q st) : ∀ {t : DT}, t.All P → t.All Q
  | .leaf _ _, a => h _ a
  | .node _ _ _, a => ⟨DT.All.imp h a.1, DT.All.imp h a.2⟩
  | .chk _ t, a => DT.All.imp h (t := t) a
  | .bad, _ => trivial
theorem DT.ok_lf : ∀ {t : DT}, t.ok.den → ∃ e st, t.lf = some (e, st)
  | .leaf e st, _ => ⟨e, st, rfl⟩
  | .node c a b, h => by
    have h := (PX.if_den c a.ok b.ok).mp h
    cases c
    · exact DT.ok_lf (t := b) (h.2 rfl)
    · exact DT.ok_lf (t := a) (h.1 rfl)
  | .chk g t, h => DT.ok_lf (t := t) ((PX.land_den g t.ok).mp h).2
  | .bad, h => h.elim
theorem DT.All.lf {P : DS → Prop} : ∀ {t : DT} {e : AExit} {st : DS}, t.All P → t.lf = some (e, st) → P st
  | .leaf e st, _, _, h, hl => by simp only [DT.lf, Option.some.injEq, Prod.mk.injEq] at hl; obtain ⟨_, rfl⟩ := hl; exact h
  | .node c a b, _, _, h, hl => by
    cases c
    · exact DT.All.lf (t := b) h.2 hl
    · exact DT.All.lf (t := a) h.1 hl
  | .chk g t, _, _, h, hl => DT.All.lf (t := t) h hl
  | .bad, _, _, _, hl => by cases hl
theorem DT.norm_chg {b : DS} : ∀ {t : DT} {m : DS}, t.All (ChgS b) → t.norm = .some m → ChgS b m
  | .leaf e st, m, h, hn => by
    cases e <;> simp only [DT.norm, reduceCtorEq, NS.some.injEq] at hn
    subst hn; exact h
  | .node c x y, m, h, hn => by
    simp only [DT.norm] at hn
    cases h1 : x.norm with
    | none => rw [h1] at hn; exact DT.norm_chg h.2 hn
    | fail =>
      rw [h1] at hn
      cases h2 : y.norm <;> rw [h2] at hn <;> cases hn
    | some a =>
      rw [h1] at hn
      cases h2 : y.norm with
      | none => rw [h2] at hn; exact DT.norm_chg h.1 (h1.trans hn)
      | fail => rw [h2] at hn; cases hn
      | some e =>
        rw [h2] at hn
        simp only at hn
        cases h3 : mrgS c a e with
        | none => rw [h3] at hn; cases hn
        | some z =>
          rw [h3] at hn
          simp only [NS.some.injEq] at hn
          subst hn
          exact mrgS_chg (DT.norm_chg h.1 h1) (DT.norm_chg h.2 h2) h3
  | .chk g t, m, h, hn => DT.norm_chg (t := t) h hn
  | .bad, m, h, hn => by cases hn
theorem DT.norm_none : ∀ {t : DT} {e : AExit} {st : DS}, t.norm = .none → t.lf = some (e, st) → e.isN = false
  | .leaf e st, _, _, hn, hl => by
    simp only [DT.lf, Option.some.injEq, Prod.mk.injEq] at hl
    obtain ⟨rfl, _⟩ := hl
    cases e <;> first | rfl | cases hn
  | .node c x y, e, st, hn, hl => by
    simp only [DT.norm] at hn
    have hxy : x.norm = .none ∧ y.norm = .none := by
      cases h1 : x.norm <;> rw [h1] at hn <;> cases h2 : y.norm <;> rw [h2] at hn <;> first | exact ⟨rfl, rfl⟩ | (cases hn; done) | (simp only at hn; split at hn <;> cases hn)
    cases c
    · exact DT.norm_none hxy.2 hl
    · exact DT.norm_none hxy.1 hl
  | .chk g t, _, _, hn, hl => DT.norm_none (t := t) hn hl
  | .bad, _, _, _, hl => by cases hl
theorem DT.norm_s {b : DS} : ∀ {t : DT} {m st : DS} {s : PS}, t.All (ChgS b) → t.norm = .some m → t.lf = some (.normal, st) → ES st s → ES m s
  | .leaf e st0, m, st, s, h, hn, hl, hs => by
    simp only [DT.lf, Option.some.injEq, Prod.mk.injEq] at hl
    obtain ⟨rfl, rfl⟩ := hl
    simp only [DT.norm, NS.some.injEq] at hn
    subst hn; exact hs
  | .node c x y, m, st, s, h, hn, hl, hs => by
    simp only [DT.norm] at hn
    cases h1 : x.norm with
    | none =>
      rw [h1] at hn
      cases c with
      | true => have := DT.norm_none h1 hl; cases this
      | false => exact DT.norm_s h.2 hn hl hs
    | fail =>
      rw [h1] at hn
      cases h2 : y.norm <;> rw [h2] at hn <;> cases hn
    | some a =>
      rw [h1] at hn
      cases h2 : y.norm with
      | none =>
        rw [h2] at hn
        cases c with
        | true => exact DT.norm_s h.1 (h1.trans hn) hl hs
        | false => have := DT.norm_none h2 hl; cases this
      | fail => rw [h2] at hn; cases hn
      | some e =>
        rw [h2] at hn
        simp only at hn
        cases h3 : mrgS c a e with
        | none => rw [h3] at hn; cases hn
        | some z =>
          rw [h3] at hn
          simp only [NS.some.injEq] at hn
          subst hn
          refine mrgS_s (DT.norm_chg h.1 h1) (DT.norm_chg h.2 h2) h3 ?_
          cases c with
          | true => exact DT.norm_s h.1 h1 hl hs
          | false => exact DT.norm_s h.2 h2 hl hs
  | .chk g t, m, st, s, h, hn, hl, hs => DT.norm_s (t := t) h hn hl hs
  | .bad, m, st, s, h, hn, hl, hs => by cases hl
theorem DT.cont_s : ∀ {t : DT} {b : BX} {e : AExit} {st : DS}, t.cont = some b → t.lf = some (e, st) → b.b = e.isN
  | .leaf e st0, b, e', st, hc, hl => by
    simp only [DT.lf, Option.some.injEq, Prod.mk.injEq] at hl
    obtain ⟨rfl, _⟩ := hl
    cases e <;> simp only [DT.cont, Option.some.injEq] at hc <;> subst hc <;> rfl
  | .node c x y, b, e, st, hc, hl => by
    have hno : ∀ {t : DT}, t.cont = none → t.lf = none := by
      intro t
      induction t with
      | leaf e st => intro h; cases e <;> cases h
      | node c x y ih1 ih2 =>
        intro h
        simp only [DT.cont] at h
        cases h1 : x.cont <;> rw [h1] at h <;> cases h2 : y.cont <;> rw [h2] at h <;> first | (cases h; done) | skip
        cases c
        · exact ih2 h2
        · exact ih1 h1
      | chk g t ih => intro h; exact ih h
      | bad => intro _; rfl
    simp only [DT.cont] at hc
    cases h1 : x.cont with
    | none =>
      rw [h1] at hc
      cases c with
      | true => simp only [DT.lf, hno h1] at hl; cases hl
      | false => exact DT.cont_s hc hl
    | some p =>
      rw [h1] at hc
      cases h2 : y.cont with
      | none =>
        rw [h2] at hc
        cases c with
        | true => exact DT.cont_s (h1.trans hc) hl
        | false => simp only [DT.lf, hno h2] at hl; cases hl
      | some q =>
        rw [h2] at hc
        simp only [Option.some.injEq] at hc
        subst hc
        rw [mrgB_s]
        cases c with
        | true => exact DT.cont_s h1 hl
        | false => exact DT.cont_s h2 hl
  | .chk g t, b, e, st, hc, hl => DT.cont_s (t := t) hc hl
  | .bad, b, e, st, hc, hl => by cases hl
theorem DT.cont_none : ∀ {t : DT}, t.cont = none → t.lf = none
  | .leaf e st, h => by cases e <;> cases h
  | .node c x y, h => by
    simp only [DT.cont] at h
    cases h1 : x.cont <;> rw [h1] at h <;> cases h2 : y.cont <;> rw [h2] at h <;> first | (cases h; done) | skip
    cases c
    · exact DT.cont_none (t := y) h2
    · exact DT.cont_none (t := x) h1
  | .chk g t, h => DT.cont_none (t := t) h
  | .bad, _ => rfl
theorem DT.drop_lf : ∀ {t : DT} {e : AExit} {st : DS}, t.lf = some (e, st) → e.isN = false → t.drop.lf = some (e, st)
  | .leaf e st0, e', st, hl, he => by
    simp only [DT.lf, Option.some.injEq, Prod.mk.injEq] at hl
    obtain ⟨rfl, rfl⟩ := hl
    cases e <;> first | rfl | cases he
  | .node c x y, e, st, hl, he => by
    have hnb : ∀ a b : DT, (DT.nodeB c a b).lf = some (e, st) ∨ (match c with | true => a.lf | false => b.lf) ≠ some (e, st) := by
      intro a b
      cases c with
      | true =>
        cases ha : a with
        | bad => right; simp [DT.lf]
        | _ =>
          rw [← ha]
          by_cases h : a.lf = some (e, st)
          · left
            cases hb : b <;> rw [ha] at h ⊢ <;> exact h
          · right; exact h
      | false =>
        cases hb : b with
        | bad => right; simp [DT.lf]
        | _ =>
          rw [← hb]
          by_cases h : b.lf = some (e, st)
          · left
            cases ha : a <;> rw [hb] at h ⊢ <;> exact h
          · right; exact h
    simp only [DT.drop]
    rcases hnb x.drop y.drop with h | h
    · exact h
    · exfalso; apply h
      cases c with
      | true => exact DT.drop_lf (t := x) hl he
      | false => exact DT.drop_lf (t := y) hl he
  | .chk g t, e, st, hl, he => DT.drop_lf (t := t) hl he
  | .bad, e, st, hl, he => by cases hl
theorem DT.drop_all {P : DS → Prop} : ∀ {t : DT}, t.All P → t.drop.All P
  | .leaf e st, h => by cases e <;> first | trivial | exact h
  | .node c x y, h => by
    have h1 := DT.drop_all h.1
    have h2 := DT.drop_all h.2
    simp only [DT.drop]
    cases hx : x.drop <;> cases hy : y.drop <;> rw [hx] at h1 <;> rw [hy] at h2 <;> first | trivial | exact h1 | exact h2 | exact ⟨h1, h2⟩
  | .chk g t, h => DT.drop_all (t := t) h
  | .bad, _ => trivial
theorem DT.map_lf (f : DS → DS) : ∀ (t : DT), (t.map f).lf = t.lf.map fun x => (x.1, f x.2)
  | .leaf _ _ => rfl
  | .node c a b => by
    cases c
    · exact DT.map_lf f b
    · exact DT.map_lf f a
  | .chk _ t => DT.map_lf f t
  | .bad => rfl
theorem DT.map_ok (f : DS → DS) : ∀ (t : DT), (t.map f).ok = t.ok
  | .leaf _ _ => rfl
  | .node c a b => by simp only [DT.map, DT.ok, DT.map_ok f a, DT.map_ok f b]
  | .chk _ t => by simp only [DT.map, DT.ok, DT.map_ok f t]
  | .bad => rfl
theorem DT.map_all {P Q : DS → Prop} {f : DS → DS} (h : ∀ st, P st → Q (f st)) : ∀ {t : DT}, t.All P → (t.map f).All Q
  | .leaf _ _, a => h _ a
  | .node _ _ _, a => ⟨DT.map_all h a.1, DT.map_all h a.2⟩
  | .chk _ t, a => DT.map_all h (t := t) a
  | .bad, _ => trivial
theorem DT.unexit_ok (i : Nat) : ∀ (t : DT), (t.unexit i).ok = t.ok
  | .leaf e st => by
    cases e <;> first | rfl | skip
    simp only [DT.unexit]; split <;> rfl
  | .node c a b => by simp only [DT.unexit, DT.ok, DT.unexit_ok i a, DT.unexit_ok i b]
  | .chk _ t => by simp only [DT.unexit, DT.ok, DT.unexit_ok i t]
  | .bad => rfl
def AExit.un (i : Nat) : AExit → AExit
  | .exit j => if j = i then .normal else .exit j
  | e => e
theorem DT.unexit_lf (i : Nat) : ∀ (t : DT), (t.unexit i).lf = t.lf.map fun x => (x.1.un i, x.2)
  | .leaf e st => by
    cases e <;> first | rfl | skip
    rename_i j
    simp only [DT.unexit, DT.lf, Option.map_some, AExit.un]
    by_cases h : j = i
    · rw [if_pos (by simpa using h), if_pos h]; rfl
    · rw [if_neg (by simpa using h), if_neg h]; rfl
  | .node c a b => by
    cases c
    · exact DT.unexit_lf i b
    · exact DT.unexit_lf i a
  | .chk _ t => DT.unexit_lf i t
  | .bad => rfl
theorem DT.unexit_all {P : DS → Prop} (i : Nat) : ∀ {t : DT}, t.All P → (t.unexit i).All P
  | .leaf e st, a => by
    cases e <;> first | exact a | skip
    simp only [DT.unexit]; split <;> exact a
  | .node _ _ _, a => ⟨DT.unexit_all i a.1, DT.unexit_all i a.2⟩
  | .chk _ t, a => DT.unexit_all i (t := t) a
  | .bad, _ => trivial
theorem DT.chk_ok (g : PX) (t : DT) : (DT.chk' g t).ok.den ↔ g.den ∧ t.ok.den := by
  cases g <;> simp only [DT.chk', DT.ok, PX.land_den, PX.den, true_and]
theorem DT.chk_lf (g : PX) (t : DT) : (DT.chk' g t).lf = t.lf := by cases g <;> rfl
theorem DT.chk_all {P : DS → Prop} (g : PX) {t : DT} (h : t.All P) : (DT.chk' g t).All P := by cases g <;> exact h
theorem DT.bind_s {f : DS → DT} {h : DS → DS} : ∀ {t : DT} {e : AExit} {st : DS}, (t.bind f h).ok.den → (t.bind f h).lf = some (e, st) →
    t.ok.den ∧ ((∃ st0, t.lf = some (.normal, st0) ∧ (f st0).ok.den ∧ (f st0).lf = some (e, st)) ∨ (e.isN = false ∧ ∃ st0, t.lf = some (e, st0) ∧ st = h st0))
  | .leaf e0 st0, e, st, ho, hl => by
    cases e0 with
    | normal => exact ⟨trivial, .inl ⟨st0, rfl, ho, hl⟩⟩
    | ret =>
      simp only [DT.bind, DT.lf, Option.some.injEq, Prod.mk.injEq] at hl
      obtain ⟨rfl, rfl⟩ := hl
      exact ⟨trivial, .inr ⟨rfl, st0, rfl, rfl⟩⟩
    | exit i =>
      simp only [DT.bind, DT.lf, Option.some.injEq, Prod.mk.injEq] at hl
      obtain ⟨rfl, rfl⟩ := hl
      exact ⟨trivial, .inr ⟨rfl, st0, rfl, rfl⟩⟩
  | .node c a b, e, st, ho, hl => by
    have ho := (PX.if_den c _ _).mp ho
    cases c with
    | true =>
      obtain ⟨h1, h2⟩ := DT.bind_s (t := a) (ho.1 rfl) hl
      exact ⟨(PX.if_den _ _ _).mpr ⟨fun _ => h1, fun h => by cases h⟩, h2⟩
    | false =>
      obtain ⟨h1, h2⟩ := DT.bind_s (t := b) (ho.2 rfl) hl
      exact ⟨(PX.if_den _ _ _).mpr ⟨fun h => (by cases h), fun _ => h1⟩, h2⟩
  | .chk g t, e, st, ho, hl => by
    have ho := (PX.land_den g _).mp ho
    obtain ⟨h1, h2⟩ := DT.bind_s (t := t) ho.2 hl
    exact ⟨(PX.land_den _ _).mpr ⟨ho.1, h1⟩, h2⟩
  | .bad, e, st, ho, hl => ho.elim
theorem DT.bind_all {P Q : DS → Prop} {f : DS → DT} {h : DS → DS} (hf : ∀ st, P st → (f st).All Q) (hh : ∀ st, P st → Q (h st)) : ∀ {t : DT}, t.All P → (t.bind f h).All Q
  | .leaf e st, a => by cases e <;> first | exact hf _ a | exact hh _ a
  | .node _ _ _, a => ⟨DT.bind_all hf hh a.1, DT.bind_all hf hh a.2⟩
  | .chk _ t, a => DT.bind_all hf hh (t := t) a
  | .bad, _ => trivial
theorem DT.then_s {b : DS} {f : DS → DT} {h : DS → DS} {t : DT} {e : AExit} {st : DS} (hb : t.All (ChgS b)) (ho : (t.then f h).ok.den) (hl : (t.then f h).lf = some (e, st)) :
    t.ok.den ∧ ((∃ st0 m, t.lf = some (.normal, st0) ∧ (∀ s, ES st0 s → ES m s) ∧ ChgS b m ∧ (f m).ok.den ∧ (f m).lf = some (e, st)) ∨ (e.isN = false ∧ ∃ st0, t.lf = some (e, st0) ∧ st = h st0)) := by
  have viaBind : (t.bind f h).ok.den → (t.bind f h).lf = some (e, st) → t.ok.den ∧ ((∃ st0 m, t.lf = some (.normal, st0) ∧ (∀ s, ES st0 s → ES m s) ∧ ChgS b m ∧ (f m).ok.den ∧ (f m).lf = some (e, st)) ∨ (e.isN = false ∧ ∃ st0, t.lf = some (e, st0) ∧ st = h st0)) := fun ho hl => by
    obtain ⟨h1, h2⟩ := DT.bind_s ho hl
    refine ⟨h1, h2.imp ?_ id⟩
    rintro ⟨st0, h3, h4, h5⟩
    exact ⟨st0, st0, h3, fun _ h => h, hb.lf h3, h4, h5⟩
  unfold DT.then at ho hl
  split at ho
  · rename_i hn
    rw [if_pos hn] at hl
    exact viaBind ho hl
  · rename_i hn
    rw [if_neg hn] at hl
    cases hm : t.norm with
    | none => rw [hm] at ho hl; exact viaBind ho hl
    | fail => rw [hm] at ho hl; exact viaBind ho hl
    | some m =>
      rw [hm] at ho hl
      simp only [DT.chk_ok, DT.chk_lf] at ho hl
      obtain ⟨ho1, ho2⟩ := ho
      refine ⟨ho1, ?_⟩
      obtain ⟨e0, st0, h0⟩ := DT.ok_lf ho1
      have nrm : e0.isN = true → (f m).ok.den → (f m).lf = some (e, st) → ((∃ st0 m, t.lf = some (.normal, st0) ∧ (∀ s, ES st0 s → ES m s) ∧ ChgS b m ∧ (f m).ok.den ∧ (f m).lf = some (e, st)) ∨ (e.isN = false ∧ ∃ st0, t.lf = some (e, st0) ∧ st = h st0)) := fun he h1 h2 => by
        have he : e0 = .normal := by cases e0 <;> first | rfl | cases he
        subst he
        exact .inl ⟨st0, m, h0, fun s hs => DT.norm_s hb hm h0 hs, DT.norm_chg hb hm, h1, h2⟩
      cases hc : t.cont with
      | none => rw [hc] at ho2; exact ho2.elim
      | some c =>
        have hcs := DT.cont_s hc h0
        cases c with
        | lit c =>
          cases c with
          | false => rw [hc] at ho2; exact ho2.elim
          | true =>
            rw [hc] at ho2 hl
            exact nrm hcs.symm ho2 hl
        | dyn c =>
          rw [hc] at ho2 hl
          simp only [BX.b] at hcs
          subst hcs
          have ho2 := (PX.if_den _ _ _).mp ho2
          cases he : e0.isN with
          | true =>
            rw [he] at hl
            exact nrm he (ho2.1 he) hl
          | false =>
            rw [he] at hl
            simp only [DT.lf, DT.map_lf, DT.drop_lf h0 he, Option.map_some, Option.some.injEq, Prod.mk.injEq] at hl
            obtain ⟨rfl, rfl⟩ := hl
            exact .inr ⟨he, st0, h0, rfl⟩
theorem DT.then_all {b : DS} {Q : DS → Prop} {f : DS → DT} {h : DS → DS} {t : DT} (hb : t.All (ChgS b)) (hf : ∀ st, ChgS b st → (f st).All Q) (hh : ∀ st, ChgS b st → Q (h st)) : (t.then f h).All Q := by
  unfold DT.then
  split
  · exact DT.bind_all hf hh hb
  · cases hm : t.norm with
    | none => exact DT.bind_all hf hh hb
    | fail => exact DT.bind_all hf hh hb
    | some m =>
      have h1 := hf m (DT.norm_chg hb hm)
      refine DT.chk_all _ ?_
      cases hc : t.cont with
      | none => trivial
      | some c =>
        cases c with
        | lit c => cases c <;> first | trivial | exact h1
        | dyn c => exact ⟨h1, DT.map_all hh (DT.drop_all hb)⟩
theorem isAgg_enc (v : DV) : v.enc.isAgg = v.isAgg := by cases v <;> rfl
theorem flatc_enc {v : DV} (h : v.flatc = true) : v.enc.flatc = true ∧ ∀ q es, v.enc ≠ .sl q es := by cases v <;> first | (cases h; done) | exact ⟨rfl, fun _ _ h => (by cases h)⟩
theorem pmkC_flat {s : PS} {hd : Hd} {c : Nat} {v : PV} {os as : List PV} (h : v.flatc = true) (hr : pmkC s hd (c + 1) os as) : pmkC s hd c (v :: os) (v :: as) := by
  cases v <;> first | exact ⟨rfl, h, hr⟩ | (cases h; done)
theorem dmkO_s {d : DS} {s : PS} (hs : ES d s) {hd : Hd} : ∀ (vs : List DV) (c : Nat) {g : PX} {os : List DV}, dmkO d hd c vs = some (g, os) → g.den → pmkC s hd c (DV.encL os) (DV.encL vs)
  | [], c, g, os, h, _ => by
    simp only [dmkO, Option.some.injEq, Prod.mk.injEq] at h
    rw [← h.2]; trivial
  | v :: vs, c, g, os, h, hg => by
    have flat : v.flatc = true → (match dmkO d hd (c + 1) vs with | some (g, os) => some (g, v :: os) | none => none) = some (g, os) → pmkC s hd c (DV.encL os) (DV.encL (v :: vs)) := by
      intro hf h
      cases h1 : dmkO d hd (c + 1) vs with
      | none => rw [h1] at h; cases h
      | some r =>
        obtain ⟨g1, os1⟩ := r
        rw [h1] at h
        simp only [Option.some.injEq, Prod.mk.injEq] at h
        obtain ⟨rfl, rfl⟩ := h
        exact pmkC_flat (flatc_enc hf).1 (dmkO_s hs vs (c + 1) h1 hg)
    have flat' : (if v.flatc = true then (match dmkO d hd (c + 1) vs with | some (g, os) => some (g, v :: os) | none => none) else none) = some (g, os) → pmkC s hd c (DV.encL os) (DV.encL (v :: vs)) := by
      intro h
      split at h
      · exact flat (by assumption) h
      · cases h
    cases v with
    | sl q r l =>
      simp only [dmkO] at h
      split at h
      · rename_i hq
        have hq : q = .bor hd [c] true := by simpa [qeq] using hq
        subst hq
        cases h1 : dmkO d hd (c + 1) vs with
        | none => rw [h1] at h; split at h <;> simp_all
        | some r =>
          obtain ⟨g1, os1⟩ := r
          rw [h1] at h
          have hk : dgetK d hd [c] ≠ .any := by intro e; rw [e] at h; cases h
          have ek := getK_enc hs hd [c] hk
          split at h
          · rename_i r' l' g2 os2 e1 e2
            simp only [Option.some.injEq, Prod.mk.injEq] at h e2
            obtain ⟨rfl, rfl⟩ := h
            obtain ⟨rfl, rfl⟩ := e2
            have hg := (PX.land_den _ _).mp hg
            have hl : l.length = l'.length := hg.1
            refine ⟨rfl, by rw [ek, e1]; rfl, ⟨_, rfl, ?_⟩, dmkO_s hs vs (c + 1) h1 hg.2⟩
            rw [List.length_map, List.length_map]; exact hl
          · rename_i g2 os2 e1 e2
            simp only [Option.some.injEq, Prod.mk.injEq] at h e2
            obtain ⟨rfl, rfl⟩ := h
            obtain ⟨rfl, rfl⟩ := e2
            have hg := (PX.land_den _ _).mp hg
            have hl : l.length = 0 := hg.1
            refine ⟨rfl, by rw [ek, e1]; rfl, ⟨_, rfl, ?_⟩, dmkO_s hs vs (c + 1) h1 hg.2⟩
            rw [List.length_map]; exact hl
          · cases h
      · cases h
    | nil q =>
      simp only [dmkO] at h
      split at h
      · rename_i hq
        have hq : q = .bor hd [c] true := by simpa [qeq] using hq
        subst hq
        cases h1 : dmkO d hd (c + 1) vs with
        | none => rw [h1] at h; split at h <;> simp_all
        | some r =>
          obtain ⟨g1, os1⟩ := r
          rw [h1] at h
          have hk : dgetK d hd [c] ≠ .any := by intro e; rw [e] at h; cases h
          have ek := getK_enc hs hd [c] hk
          split at h
          · rename_i r' l' g2 os2 e1 e2
            simp only [Option.some.injEq, Prod.mk.injEq] at h e2
            obtain ⟨rfl, rfl⟩ := h
            obtain ⟨rfl, rfl⟩ := e2
            have hg := (PX.land_den _ _).mp hg
            have hl : l'.length = 0 := hg.1
            refine ⟨rfl, by rw [ek, e1]; rfl, ⟨_, rfl, ?_⟩, dmkO_s hs vs (c + 1) h1 hg.2⟩
            rw [List.length_map]; exact hl.symm
          · rename_i g2 os2 e1 e2
            simp only [Option.some.injEq, Prod.mk.injEq] at h e2
            obtain ⟨rfl, rfl⟩ := h
            obtain ⟨rfl, rfl⟩ := e2
            exact ⟨rfl, by rw [ek, e1]; rfl, ⟨_, rfl, rfl⟩, dmkO_s hs vs (c + 1) h1 hg⟩
          · cases h
      · cases h
    | _ => exact flat' h
def DV.flag : List DV → Prop
  | [] => True
  | .sl q _ _ :: r => q = .own ∧ DV.flag r
  | _ :: r => DV.flag r
theorem rt_flag : ∀ (r : RT) (x : r.D), DV.flag (r.dv .own x)
  | .one t, x => by cases t <;> first | trivial | exact ⟨rfl, trivial⟩
  | .cons t r, x => by cases t <;> first | exact ⟨rfl, rt_flag r x.2⟩ | exact rt_flag r x.2
theorem dmkS_s {hd : Hd} {D' : DS} {K : PS → Prop} (hK : ∀ s', ES D' s' → K s') : ∀ (vs : List DV) (c : Nat) {d : DS} {s : PS}, ES d s → dmkS hd c vs d = some D' → DV.flag vs → pmkS hd c (DV.encL vs) K s
  | [], c, d, s, hs, h, _ => by
    simp only [dmkS, Option.some.injEq] at h
    subst h; exact hK _ hs
  | v :: vs, c, d, s, hs, h, hf => by
    cases v with
    | sl q r l =>
      simp only [dmkS] at h
      have hk : dgetK d hd [c] ≠ .any := by intro e; rw [e] at h; cases h
      have ek := getK_enc hs hd [c] hk
      have hn : dmkS hd (c + 1) vs (dsetK d (.sl q r l) hd [c]) = some D' ∧ ∃ es0, getK s hd [c] = .sl .own es0 := by
        split at h
        · rename_i e1; exact ⟨h, _, by rw [ek, e1]; rfl⟩
        · rename_i e1; exact ⟨h, _, by rw [ek, e1]; rfl⟩
        · cases h
      obtain ⟨rfl, hf⟩ := hf
      exact ⟨hn.2, dmkS_s hK vs (c + 1) (setK_sound hs hd [c] (.sl .own r l) hk) hn.1 hf⟩
    | nil q => cases h
    | _ => exact dmkS_s hK vs (c + 1) hs h hf
theorem rt_pmkN : ∀ (r : RT) (x y : r.D), pmkN (RT.enc r x) (RT.enc r y)
  | .one t, x, y => by cases t <;> first | exact ⟨⟨_, rfl⟩, trivial⟩ | exact ⟨fun _ _ h => (by cases h), trivial⟩
  | .cons t r, x, y => by cases t <;> first | exact ⟨⟨_, rfl⟩, rt_pmkN r x.2 y.2⟩ | exact ⟨fun _ _ h => (by cases h), rt_pmkN r x.2 y.2⟩
theorem dmkHd_sb : ∀ {vs : List DV} {c : Nat} {hd : Hd} {b : Nat}, dmkHd c vs = some (hd, b) → hd.sb = true
  | [], _, _, _, h => by cases h
  | v :: vs, c, hd, b, h => by
    unfold dmkHd at h
    split at h
    · cases h
    · split at h
      · rename_i hc
        simp only [Bool.and_eq_true] at hc
        simp only [Option.some.injEq, Prod.mk.injEq] at h
        rw [← h.1]; exact hc.2
      · cases h
    · split at h
      · rename_i hc
        simp only [Bool.and_eq_true] at hc
        simp only [Option.some.injEq, Prod.mk.injEq] at h
        rw [← h.1]; exact hc.2
      · cases h
    · rename_i h1; cases h1; exact dmkHd_sb h
theorem dmark_s {d d1 : DS} {s : PS} (hs : ES d s) {M : DMk} {x y : Opnd} {g : PX} {v : DV} (h : dmark M x y d = some (g, v, d1)) (hg : g.den) {dst : Option Nat} {k : PS → Prop} (hk : ∀ s', ES d1 s' → k (s'.put dst v.enc)) : pmark M.P x y dst k s := by
  unfold dmark at h
  split at h
  · rename_i m hm
    split at h
    · rename_i hc
      simp only [Bool.and_eq_true] at hc
      split at h
      · rename_i hd b hh
        split at h
        · rename_i g1 os ho
          split at h
          · rename_i z hz
            split at h
            · rename_i st' hS
              simp only [Option.some.injEq, Prod.mk.injEq] at h
              obtain ⟨rfl, rfl, rfl⟩ := h
              have hg := (PX.land_den _ _).mp hg
              have hy : y.pev s.sl = .fl (.int .i64 m) := by
                have := y.dev_ev hs
                rw [hm] at this
                exact this.of (by simp)
              have hx : x.pev s.sl = (x.dev d.sl).enc := (x.dev_ev hs).of (by intro e; rw [e] at hc; cases hc.2)
              refine ⟨m, hd, b, M.r.enc z, hy, ?_, dmkHd_sb hh, ?_, ?_, ⟨z, rfl, hg.2, rt_pmkN _ _ _, ?_⟩⟩
              · rw [hx, isAgg_enc]; exact eq_of_beq hc.1
              · rw [hx]; exact argok_enc _ hc.2
              · rw [hx, cells_enc, ← rt_of hz]; exact dmkO_s hs _ b ho hg.1
              · rw [← rt_own]
                have hP : M.P.vd = M.vd := rfl
                refine dmkS_s (fun s' hs' => ?_) _ b hs hS (rt_flag _ _)
                have h := hk s' hs'
                rw [hP]
                cases hvd : M.vd with
                | true => rw [hvd] at h; exact h
                | false => rw [hvd] at h; exact h
            · cases h
          · cases h
        · cases h
      · cases h
    · cases h
  · cases h
theorem dmkS_chg {hd : Hd} {D' : DS} : ∀ (vs : List DV) (c : Nat) {d : DS}, dmkS hd c vs d = some D' → ChgS d D'
  | [], c, d, h => by
    simp only [dmkS, Option.some.injEq] at h
    subst h; exact ChgS.refl _
  | v :: vs, c, d, h => by
    cases v with
    | sl q r l =>
      simp only [dmkS] at h
      split at h
      · exact (ChgS.setK _ _ _ _).trans (dmkS_chg vs _ h)
      · exact (ChgS.setK _ _ _ _).trans (dmkS_chg vs _ h)
      · cases h
    | nil q => cases h
    | _ => exact dmkS_chg vs _ h
theorem dmark_chg {d d1 : DS} {M : DMk} {x y : Opnd} {g : PX} {v : DV} (h : dmark M x y d = some (g, v, d1)) : ChgS d d1 := by
  unfold dmark at h
  repeat' split at h
  all_goals first | (cases h; done) | skip
  all_goals
    simp only [Option.some.injEq, Prod.mk.injEq] at h
    obtain ⟨_, _, rfl⟩ := h
    exact dmkS_chg _ _ (by assumption)
def SoundD (p : PSem) (D : DSem) : Prop := ∀ (args : List DV) (g : PX) (v : DV) (Q : PV → List (List PV) → Prop), D args = some (g, v) → g.den → (∀ H, Q v.enc H) → p (DV.encL args) [] Q
def SoundDP (p : PSem) (D : DSemP) : Prop := ∀ (args : List DV) (b : List (List DV)) (g : PX) (v : DV) (H : List (List DV)) (Q : PV → List (List PV) → Prop), D args b = some (g, v, H) → g.den → Q v.enc (encLB (mixVB b H)) → p (DV.encL args) (encLB b) Q
inductive ObD where
  | nv (p : PSem) (D : DSem)
  | wp (p : PSem) (D : DSemP)
def ObD.sound : ObD → Prop
  | .nv p D => SoundD p D
  | .wp p D => SoundDP p D
def DOp.obs : DOp → List ObD
  | .a _ _ _ => []
  | .aw _ _ _ _ => []
  | .call _ _ p D _ => [.nv p D]
  | .mark _ _ _ _ => []
  | .callp _ _ p D _ => [.wp p D]
def dopsObs : List DOper → List ObD
  | [] => []
  | o :: r => o.op.obs ++ dopsObs r
def DCode.obs : DCode → List ObD
  | .skip => []
  | .region ops => dopsObs ops
  | .seq _ a b => a.obs ++ b.obs
  | .cond _ a b => a.obs ++ b.obs
  | .block _ a => a.obs
  | .loop _ _ a => a.obs
  | .exit _ => []
  | .ret => []
def AllD : List ObD → Prop
  | [] => True
  | o :: r => o.sound ∧ AllD r
theorem AllD.app : ∀ {a b : List ObD}, AllD (a ++ b) → AllD a ∧ AllD b
  | [], _, h => ⟨trivial, h⟩
  | _ :: _, _, ⟨h1, h2⟩ => ⟨⟨h1, (AllD.app h2).1⟩, (AllD.app h2).2⟩
theorem devL_s {d : DS} {s : PS} (hs : ES d s) : ∀ (args : List Opnd), dargsOk (devL d.sl args) = true → args.map (·.pev s.sl) = DV.encL (devL d.sl args)
  | [], _ => rfl
  | x :: r, h => by
    simp only [devL, dargsOk, Bool.and_eq_true] at h
    simp only [List.map_cons, devL, DV.encL, devL_s hs r h.2]
    rw [(x.dev_ev hs).of (by intro e; rw [e] at h; cases h.1)]
theorem any_hasPtr : ∀ (l : List PV), l.any PV.hasPtr = PV.hasPtrL l
  | [] => rfl
  | v :: r => by simp only [List.any_cons, PV.hasPtrL, any_hasPtr r]
theorem map_fz : ∀ (l : List PV), l.map PV.fz = PV.fzL l
  | [] => rfl
  | v :: r => by simp only [List.map_cons, PV.fzL, map_fz r]
theorem all_hold : ∀ (l : List PV), (l.all fun v => !v.hold) = !PV.holdL l
  | [] => rfl
  | v :: r => by simp only [List.all_cons, PV.holdL, all_hold r, Bool.not_or]
mutual
theorem deep_enc : ∀ (v : DV), v.deep = true → v.enc.deep = true
  | .undef, _ | .bool _, _ | .int _ _, _ | .str _, _ | .ifc _, _ | .ptr _ _, _ => rfl
  | .nil q, h => by cases q <;> first | rfl | cases h
  | .sl q r l, h => by cases q <;> first | (cases h; done) | exact rt_deepE r l
  | .agg cs, h => deepL_enc cs h
  | .tup cs, h => deepL_enc cs h
theorem deepL_enc : ∀ (l : List DV), DV.deepL l = true → PV.deepL (DV.encL l) = true
  | [], _ => rfl
  | v :: r, h => by
    simp only [DV.deepL, Bool.and_eq_true] at h
    simp only [DV.encL, PV.deepL, deep_enc v h.1, deepL_enc r h.2, Bool.and_self]
end
theorem retc_eq (v : DV) : v.enc.retc = v.retc := by
  cases v <;> first | rfl | skip
  case nil q => cases q <;> rfl
  case sl q r l => cases q <;> rfl
theorem retL_eq : ∀ (l : List DV), retL (DV.encL l) = dretL l
  | [] => rfl
  | v :: r => by simp only [DV.encL, retL, dretL, retc_eq v, retL_eq r]
theorem retok_eq (v : DV) : v.enc.retok = v.retok := by
  cases v <;> first | rfl | skip
  case nil q => exact retc_eq (.nil q)
  case sl q r l => exact retc_eq (.sl q r l)
  case agg cs => exact retL_eq cs
theorem fzOut_ES {d : DS} {s : PS} (x : Opnd) (h : ES d s) (hk : ∀ n, x = .t n → dget d.sl n ≠ .any) : ES (dfzOut x d).2 (fzOut x s).2 := by
  cases x with
  | c v => exact h
  | t n =>
    simp only [dfzOut, dfzS, fzOut, fzS]
    have hg := (h.sl.get n).of (hk n rfl)
    rw [hg, own_enc, retok_eq]
    by_cases ho : (dget d.sl n).own = true
    · simp only [ho, if_true]
      by_cases hr : (dget d.sl n).retok = true
      · rw [if_pos hr, if_pos hr, ← fz_enc]
        exact ⟨(h.sl.put n (.inr rfl)).clr _, h.bx, h.hp⟩
      · rw [if_neg hr, if_neg hr]; exact h
    · simp only [ho]; exact h
theorem dget_put_any (v : DV) : ∀ (l : List DC) (k n : Nat), dget l n = .any → k ≠ n → dget (dput l k v) n = .any
  | [], _, _, _, _ => rfl
  | _ :: _, 0, 0, _, hn => absurd rfl hn
  | _ :: _, 0, _ + 1, h, _ => h
  | _ :: _, _ + 1, 0, h, _ => h
  | _ :: r, k + 1, n + 1, h, hn => dget_put_any v r k n h (by simpa using hn)
theorem dget_clr_any (hd : Hd) : ∀ (l : List DC) (n : Nat), dget l n = .any → dget (dclr hd l) n = .any
  | [], _, _ => rfl
  | c :: _, 0, h => by
    have h : c.v = .any := h
    simp only [dclr, h, DV.bor, Bool.false_eq_true, if_false, dget]
  | _ :: r, n + 1, h => dget_clr_any hd r n h
theorem dget_fz_any (x : Opnd) (d : DS) (n : Nat) (h : dget d.sl n = .any) : dget (dfzOut x d).2.sl n = .any := by
  cases x with
  | c v => exact h
  | t k =>
    simp only [dfzOut, dfzS]
    split
    · rename_i ho
      split
      · refine dget_clr_any _ _ _ (dget_put_any _ _ _ _ h ?_)
        rintro rfl; rw [h] at ho; cases ho
      · exact h
    · exact h
theorem dget_fzs_any : ∀ (args : List Opnd) (d : DS) (n : Nat), dget d.sl n = .any → dget (dfzArgs args d).sl n = .any
  | [], _, _, h => h
  | x :: r, d, n, h => dget_fzs_any r _ n (dget_fz_any x d n h)
theorem fzArgs_s : ∀ (args : List Opnd) {d : DS} {s : PS}, ES d s → (∀ x ∈ args, x.dev (dfzArgs args d).sl ≠ .any) → ES (dfzArgs args d) (fzArgs args s)
  | [], _, _, h, _ => h
  | x :: r, d, s, h, hk => by
    refine fzArgs_s r (fzOut_ES x h fun n hx hn => ?_) fun y hy => hk y (List.mem_cons_of_mem _ hy)
    subst hx
    exact hk (.t n) (List.mem_cons_self ..) (dget_fzs_any (.t n :: r) d n hn)
theorem devL_known {sl : List DC} : ∀ {args : List Opnd}, dargsOk (devL sl args) = true → ∀ x ∈ args, x.dev sl ≠ .any
  | [], _, _, hx => by cases hx
  | a :: r, h, x, hx => by
    simp only [devL, dargsOk, Bool.and_eq_true] at h
    rcases List.mem_cons.mp hx with rfl | hx
    · intro e; rw [e] at h; cases h.1
    · exact devL_known h.2 x hx
theorem DS.fzArgs_chg : ∀ (args : List Opnd) (d : DS), ChgS d (dfzArgs args d)
  | [], d => ChgS.refl d
  | x :: r, d => (ChgS.fzOut x d).trans (DS.fzArgs_chg r _)
section
variable {E : AExit} {D' : DS}
def Rest (E : AExit) (D' : DS) (K : DS → DT) (k : PS → Prop) : Prop := ∀ d s, ES d s → (K d).ok.den → (K d).lf = some (E, D') → k s
theorem dcall_s {D : DSem} {p : PSem} (hp : SoundD p D) {args : List Opnd} {d d1 : DS} {s : PS} {g : PX} {v : DV} {dst : Option Nat} {k : PS → Prop} (hs : ES d s) (h : dcall D args d = some (g, v, d1)) (hg : g.den) (hk : ∀ s', ES (d1.put dst v) s' → k s') : pcall p args dst k s := by
  unfold dcall at h
  simp only at h
  split at h
  · rename_i hc
    simp only [Bool.and_eq_true, Bool.not_eq_true'] at hc
    obtain ⟨h1, h2⟩ := hc
    split at h
    · rename_i g1 v1 hD
      split at h
      · rename_i hr
        simp only [Bool.and_eq_true, Bool.not_eq_true', Bool.or_eq_true] at hr
        obtain ⟨⟨hok, hnp⟩, hdp⟩ := hr
        simp only [Option.some.injEq, Prod.mk.injEq] at h
        obtain ⟨rfl, rfl, rfl⟩ := h
        have e := devL_s hs args h1
        refine ⟨by rw [e]; exact argsOk_enc _ h1, ?_⟩
        rw [e, any_hasPtr, hasPtrL_enc, h2]
        simp only [Bool.false_eq_true, if_false]
        rw [map_fz, ← fzL_enc]
        refine hp _ _ _ _ hD hg fun H => ⟨?_, ?_⟩
        · rw [hasPtr_enc, hnp, all_hold, holdL_enc]
          rcases hdp with h | h
          · simp [deep_enc _ h]
          · simp [h]
        · rw [hasPtr_enc, hnp]
          simp only [Bool.false_eq_true, if_false]
          exact hk _ (hs.put dst v1)
      · cases h
    · cases h
  · cases h
theorem dcall_st {D : DSem} {args : List Opnd} {d d1 : DS} {g : PX} {v : DV} (h : dcall D args d = some (g, v, d1)) : d1 = d ∧ dargsOk (devL d.sl args) = true := by
  unfold dcall at h
  simp only at h
  split at h
  · rename_i hc
    simp only [Bool.and_eq_true] at hc
    split at h
    · split at h
      · simp only [Option.some.injEq, Prod.mk.injEq] at h
        exact ⟨h.2.2.symm, hc.1⟩
      · cases h
    · cases h
  · cases h
theorem isHq (q : Ql) : ∀ es, (PV.sl q es).isH = q.isH' ∧ ∀ j o, (PV.ep q es j o).isH = q.isH' := by
  intro es
  cases q with
  | bor hd p t => cases hd <;> exact ⟨rfl, fun _ _ => rfl⟩
  | pre hd p => cases hd <;> exact ⟨rfl, fun _ _ => rfl⟩
  | _ => exact ⟨rfl, fun _ _ => rfl⟩
mutual
theorem isH_enc : ∀ (v : DV), v.enc.isH = v.isH
  | .nil q => (isHq q []).1
  | .sl q r l => (isHq q _).1
  | .ep q r l j o => (isHq q _).2 j o
  | .agg cs => isHL_enc cs
  | .tup vs => isHL_enc vs
  | .any | .undef | .bool _ | .int _ _ | .str _ | .ifc _ | .box _ _ | .ptr _ _ => rfl
theorem isHL_enc : ∀ (l : List DV), PV.isHL (DV.encL l) = DV.isHL l
  | [] => rfl
  | v :: r => by simp only [DV.encL, PV.isHL, DV.isHL, isH_enc v, isHL_enc r]
end
theorem EL.clrH : ∀ {a : List DC} {b : List PV}, EL a b → EL (dclrH a) (Go.Ag.clrH b)
  | [], [], _ => trivial
  | c :: a, p :: b, h => by
    refine ⟨?_, EL.clrH h.2⟩
    by_cases hc : c.v.isH = true
    · rw [if_pos hc]; exact .inl rfl
    · rw [if_neg hc]
      rcases h.1 with h1 | h1
      · exact .inl h1
      · rw [h1, isH_enc, if_neg hc]; exact .inr rfl
theorem EL.all : ∀ {a : List DC} {b : List PV}, EL a b → DV.okL (vals a) = true → b = DV.encL (vals a)
  | [], [], _, _ => rfl
  | c :: a, p :: b, h, hk => by
    simp only [vals, DV.okL, Bool.and_eq_true] at hk
    rcases h.1 with h1 | h1
    · rw [h1] at hk; cases hk.1
    · simp only [vals, DV.encL]; rw [h1, EL.all h.2 hk.2]
theorem EB.all : ∀ {a : List (List DC)} {b : List (List PV)}, EB a b → okB (valsB a) = true → b = encLB (valsB a)
  | [], [], _, _ => rfl
  | c :: a, p :: b, h, hk => by
    simp only [valsB, okB, Bool.and_eq_true] at hk
    have hl : 0 < c.length := by rw [← vals_len]; exact Nat.le_of_ble_eq_true hk.1.1
    simp only [valsB, encLB]
    rw [(h.1.to hl).all hk.1.2, EB.all h.2 hk.2]
theorem EL.mix : ∀ (a : List DC) (vs : List DV), EL (mixC a vs) (DV.encL (mixV (vals a) vs))
  | [], vs => by simp only [mixC, vals, mixV]; exact EL.news vs
  | c :: a, [] => by
    have : ∀ (a : List DC), EL a (DV.encL (vals a)) := by
      intro a
      induction a with
      | nil => exact trivial
      | cons x r ih => exact ⟨.inr rfl, ih⟩
    exact this (c :: a)
  | c :: a, v :: vs => by
    simp only [mixC, vals, mixV]
    refine ⟨?_, EL.mix a vs⟩
    by_cases h : v.isAny = true
    · rw [if_pos h, if_pos h]; exact .inr rfl
    · rw [if_neg h, if_neg h]; exact .inr rfl
theorem EB.newsB : ∀ (vs : List (List DV)), EB (Go.Ag.newsB vs) (encLB vs)
  | [] => trivial
  | v :: r => ⟨.inr (EL.news v), EB.newsB r⟩
theorem EB.mix : ∀ (a : List (List DC)) (vs : List (List DV)), EB (mixB a vs) (encLB (mixVB (valsB a) vs))
  | [], vs => by simp only [mixB, valsB, mixVB]; exact EB.newsB vs
  | c :: a, [] => by
    have h0 : ∀ (a : List DC), mixC a [] = a := by intro a; cases a <;> rfl
    have h1 : ∀ (a : List DC), mixV (vals a) [] = vals a := by intro a; cases a <;> rfl
    have : ∀ (a : List (List DC)), EB a (encLB (valsB a)) := by
      intro a
      induction a with
      | nil => exact trivial
      | cons x r ih =>
        refine ⟨.inr ?_, ih⟩
        have := EL.mix x []
        rw [h0, h1] at this; exact this
    exact this (c :: a)
  | c :: a, v :: vs => by
    simp only [mixB, valsB, mixVB]
    exact ⟨.inr (EL.mix c v), EB.mix a vs⟩
theorem encLB_len : ∀ (a : List (List DV)), (encLB a).length = a.length
  | [] => rfl
  | _ :: r => by simp only [encLB, List.length_cons, encLB_len r]
theorem mixVB_len : ∀ (a vs : List (List DV)), a.length ≤ (mixVB a vs).length
  | [], _ => Nat.zero_le _
  | _ :: _, [] => Nat.le_refl _
  | _ :: a, _ :: vs => by simp only [mixVB, List.length_cons]; exact Nat.succ_le_succ (mixVB_len a vs)
theorem dcallp_s {D : DSemP} {p : PSem} (hp : SoundDP p D) {args : List Opnd} {d d1 : DS} {s : PS} {g : PX} {v : DV} {dst : Option Nat} {k : PS → Prop} (hs : ES d s) (h : dcallp D args d = some (g, v, d1)) (hg : g.den) (hk : ∀ s', ES (d1.put dst v) s' → k s') : pcall p args dst k s := by
  unfold dcallp at h
  simp only at h
  split at h
  · rename_i hc
    simp only [Bool.and_eq_true, Bool.not_eq_true'] at hc
    obtain ⟨⟨h1, h2⟩, h3⟩ := hc
    have e := devL_s hs args h1
    have eh := hs.hp.all h3
    have hun : ((DV.encL (devL d.sl args)).all fun v => !v.hold) = true := by rw [all_hold, holdL_enc, h2]; rfl
    split at h
    · rename_i hpt
      split at h
      · rename_i g1 v1 H hD
        split at h
        · rename_i hr
          simp only [Bool.and_eq_true, Bool.not_eq_true'] at hr
          simp only [Option.some.injEq, Prod.mk.injEq] at h
          obtain ⟨rfl, rfl, rfl⟩ := h
          refine ⟨by rw [e]; exact argsOk_enc _ h1, ?_⟩
          rw [e, any_hasPtr, hasPtrL_enc, hpt]
          simp only [if_true]
          refine ⟨hun, ?_⟩
          rw [map_fz, ← fzL_enc, eh]
          have hE : ES { d with sl := dclrH d.sl, hp := mixB d.hp H } { s with sl := Go.Ag.clrH s.sl, hp := encLB (mixVB (valsB d.hp) H) } := ⟨hs.sl.clrH, hs.bx, EB.mix d.hp H⟩
          refine hp _ _ _ _ _ _ hD hg ⟨?_, by rw [hasPtr_enc]; exact hr.2, hk _ (hE.put dst v1)⟩
          rw [encLB_len, encLB_len]; exact mixVB_len _ _
        · cases h
      · cases h
    · rename_i hpt
      split at h
      · rename_i hl
        have hl : d.hp = [] := List.eq_nil_of_length_eq_zero (by simpa using hl)
        split at h
        · rename_i g1 v1 H hD
          split at h
          · rename_i hr
            simp only [Option.some.injEq, Prod.mk.injEq] at h
            obtain ⟨rfl, rfl, rfl⟩ := h
            have hv : v1 = .ptr 0 0 := by
              unfold DV.isP0 at hr
              split at hr
              · rfl
              · cases hr
            subst hv
            have hsl : s.hp = [] := by rw [eh, hl]; rfl
            refine ⟨by rw [e]; exact argsOk_enc _ h1, ?_⟩
            rw [e, any_hasPtr, hasPtrL_enc]
            rw [if_neg (by simpa using hpt)]
            rw [map_fz, ← fzL_enc]
            have := hp _ [] _ _ _ (fun r H => (((!r.hasPtr && r.deep) || (DV.encL (devL d.sl args)).all fun v => !v.hold) = true) ∧ k (PS.put { s with hp := if r.hasPtr then s.hp ++ H else s.hp } dst (if r.hasPtr then r.shift s.hp.length else r))) hD hg ⟨by rw [hun]; simp, by
              have hE : ES { d with hp := newsB H } { s with hp := encLB H } := ⟨hs.sl, hs.bx, EB.newsB H⟩
              have := hk _ (hE.put dst (.ptr 0 0))
              simpa [hsl, DV.enc, PV.hasPtr, PV.shift, mixVB] using this⟩
            exact this
          · cases h
        · cases h
      · cases h
  · cases h
theorem dcallp_st {D : DSemP} {args : List Opnd} {d d1 : DS} {g : PX} {v : DV} (h : dcallp D args d = some (g, v, d1)) : ChgS d d1 ∧ dargsOk (devL d.sl args) = true := by
  have cH : ∀ (l : List DC), Chg l (dclrH l) := by
    intro l
    induction l with
    | nil => trivial
    | cons c r ih =>
      refine ⟨?_, ih⟩
      by_cases hc : c.v.isH = true
      · rw [if_pos hc]; exact .inl rfl
      · rw [if_neg hc]; exact .inr rfl
  have cN : ∀ (x : List DC) (vs : List DV), Chg x (news vs) := by
    intro x vs
    induction vs generalizing x with
    | nil => cases x <;> trivial
    | cons v r ih => cases x with
      | nil => exact ⟨rfl, ih []⟩
      | cons c x => exact ⟨.inl rfl, ih x⟩
  have cM : ∀ (a : List DC) (vs : List DV), Chg a (mixC a vs) := by
    intro a
    induction a with
    | nil => intro vs; exact cN [] vs
    | cons c r ih =>
      intro vs
      cases vs with
      | nil => exact Chg.refl _
      | cons v vs =>
        refine ⟨?_, ih vs⟩
        by_cases h : v.isAny = true
        · rw [if_pos h]; exact .inr rfl
        · rw [if_neg h]; exact .inl rfl
  have cNB : ∀ (x : List (List DC)) (vs : List (List DV)), ChgB x (newsB vs) := by
    intro x vs
    induction vs generalizing x with
    | nil => cases x <;> trivial
    | cons v r ih => cases x with
      | nil => exact ⟨cN _ _, ih []⟩
      | cons c x => exact ⟨cN _ _, ih x⟩
  have cMB : ∀ (a : List (List DC)) (vs : List (List DV)), ChgB a (mixB a vs) := by
    intro a
    induction a with
    | nil => intro vs; exact cNB [] vs
    | cons c r ih =>
      intro vs
      cases vs with
      | nil => exact ChgB.refl _
      | cons v vs => exact ⟨cM c v, ih vs⟩
  unfold dcallp at h
  simp only at h
  split at h
  · rename_i hc
    simp only [Bool.and_eq_true] at hc
    refine ⟨?_, hc.1.1⟩
    split at h
    · split at h
      · split at h
        · simp only [Option.some.injEq, Prod.mk.injEq] at h
          obtain ⟨_, _, rfl⟩ := h
          exact ⟨cH _, ChgB.refl _, cMB _ _⟩
        · cases h
      · cases h
    · split at h
      · split at h
        · split at h
          · simp only [Option.some.injEq, Prod.mk.injEq] at h
            obtain ⟨_, _, rfl⟩ := h
            exact ⟨Chg.refl _, ChgB.refl _, cNB _ _⟩
          · cases h
        · cases h
      · cases h
  · cases h
theorem pick_mv {d : DS} {s : PS} (x : Opnd) (hs : ES d s) (hk : x.dev d.sl ≠ .any) (ho : (x.dev d.sl).own = false) : mvOut x s = ((x.dev d.sl).enc, s) := by
  cases x with
  | c v => simp only [mvOut, Opnd.dev]; rw [ofVd_enc v hk]
  | t n =>
    have := (hs.sl.get n).of hk
    simp only [mvOut, mvS, this, own_enc, Opnd.dev] at ho ⊢
    rw [if_neg (by simp [ho])]
theorem dpop_s {o : DOp} (ho : AllD o.obs) {dst : Option Nat} {K : DS → DT} {k : PS → Prop} (hK : Rest E D' K k) : Rest E D' (dpop o dst K) (fun s => pop o.er dst k s) := by
  intro d s hs hok hl
  cases o with
  | call m f p D args =>
    simp only [dpop] at hok hl
    simp only [DOp.er, pop]
    cases hc : dcall D args (if m = true then dfzArgs args d else d) with
    | none => rw [hc] at hok; exact hok.elim
    | some r =>
      obtain ⟨g, v, d1⟩ := r
      rw [hc] at hok hl
      simp only [DT.chk_ok, DT.chk_lf] at hok hl
      obtain ⟨e1, e2⟩ := dcall_st hc
      have hs' : ES (if m = true then dfzArgs args d else d) (if m = true then fzArgs args s else s) := by
        cases m with
        | false => exact hs
        | true => exact fzArgs_s args hs (devL_known e2)
      exact dcall_s ho.1 hs' hc hok.1 fun s' hs' => hK _ _ hs' hok.2 hl
  | aw ws m o ty =>
    simp only [dpop] at hok hl
    simp only [DOp.er, pop]
    cases hst : dstepW ws m o ty d with
    | none => rw [hst] at hok; exact hok.elim
    | some r =>
      obtain ⟨g, v, d1⟩ := r
      rw [hst] at hok hl
      simp only [DT.chk_ok, DT.chk_lf] at hok hl
      obtain ⟨s', v0, e1, e2, e3⟩ := dstepW_sound hs hst hok.1
      simp only [e1, e2]
      exact hK _ _ (e3.put dst v) hok.2 hl
  | mark f M x y =>
    simp only [dpop] at hok hl
    simp only [DOp.er, pop]
    cases hst : dmark M x y d with
    | none => rw [hst] at hok; exact hok.elim
    | some r =>
      obtain ⟨g, v, d1⟩ := r
      rw [hst] at hok hl
      simp only [DT.chk_ok, DT.chk_lf] at hok hl
      exact dmark_s hs hst hok.1 fun s' hs' => hK _ _ (hs'.put dst v) hok.2 hl
  | callp m f p D args =>
    simp only [dpop] at hok hl
    simp only [DOp.er, pop]
    cases hc : dcallp D args (if m = true then dfzArgs args d else d) with
    | none => rw [hc] at hok; exact hok.elim
    | some r =>
      obtain ⟨g, v, d1⟩ := r
      rw [hc] at hok hl
      simp only [DT.chk_ok, DT.chk_lf] at hok hl
      obtain ⟨e1, e2⟩ := dcallp_st hc
      have hs' : ES (if m = true then dfzArgs args d else d) (if m = true then fzArgs args s else s) := by
        cases m with
        | false => exact hs
        | true => exact fzArgs_s args hs (devL_known e2)
      exact dcallp_s ho.1 hs' hc hok.1 fun s' hs' => hK _ _ hs' hok.2 hl
  | a m o ty =>
    have gen : (match dstep m o ty d with | some (g, v, st) => DT.chk' g (K (st.put dst v)) | none => DT.bad).ok.den → (match dstep m o ty d with | some (g, v, st) => DT.chk' g (K (st.put dst v)) | none => DT.bad).lf = some (E, D') → pop (DOp.a m o ty).er dst k s := by
      intro hok hl
      cases hst : dstep m o ty d with
      | none => rw [hst] at hok; exact hok.elim
      | some r =>
        obtain ⟨g, v, d1⟩ := r
        rw [hst] at hok hl
        simp only [DT.chk_ok, DT.chk_lf] at hok hl
        obtain ⟨s', e1, e2⟩ := dstep_sound hs hst hok.1
        simp only [DOp.er, pop, e1]
        exact hK _ _ (e2.put dst v) hok.2 hl
    cases o <;> first | exact gen hok hl | skip
    case pick c a b =>
      clear gen
      simp only [dpop] at hok hl
      have hc := c.dev_ev hs
      have one : ∀ (x : Opnd), (match dmvOut x d with | (v, st) => if v.ok = true then K (st.put dst v) else DT.bad).ok.den → (match dmvOut x d with | (v, st) => if v.ok = true then K (st.put dst v) else DT.bad).lf = some (E, D') → k ((mvOut x s).2.put dst (mvOut x s).1) := by
        intro x hok hl
        by_cases hv : (dmvOut x d).1.ok = true
        · simp only [if_pos hv] at hok hl
          obtain ⟨m1, m2⟩ := mvOut_sound x hs hv
          rw [m1]
          exact hK _ _ (m2.put dst _) hok hl
        · simp only [if_neg hv] at hok
          exact hok.elim
      cases hcv : c.dev d.sl with
      | bool t =>
        rw [hcv] at hc
        have hp := hc.of (by simp)
        simp only [DOp.er, pop, pstep, hp, DV.enc]
        cases t with
        | lit t =>
          rw [hcv] at hok hl
          cases t with
          | true => exact one a hok hl
          | false => exact one b hok hl
        | dyn t =>
          rw [hcv] at hok hl
          simp only at hok hl
          split at hok
          · rename_i h
            rw [if_pos h] at hl
            have hok := (PX.if_den _ _ _).mp hok
            cases t with
            | true => exact one a (hok.1 rfl) hl
            | false => exact one b (hok.2 rfl) hl
          · rename_i h
            rw [if_neg h] at hl
            simp only [Bool.not_eq_true, Bool.or_eq_false_iff, Bool.not_eq_false'] at h
            obtain ⟨⟨h1, h2⟩, h3⟩ := h
            have ka : a.dev d.sl ≠ .any := by
              intro e; rw [e] at h3; cases hb : b.dev d.sl <;> rw [hb] at h3 <;> cases h3
            have kb : b.dev d.sl ≠ .any := by
              intro e; rw [e] at h3; cases hb : a.dev d.sl <;> rw [hb] at h3 <;> cases h3
            have hm : mrgV t (a.dev d.sl) (b.dev d.sl) ≠ .any := by intro e; rw [e] at h3; cases h3
            have he := (mrgV_s t (a.dev d.sl) (b.dev d.sl)).resolve_left hm
            have := hK _ _ (hs.put dst (mrgV t (a.dev d.sl) (b.dev d.sl))) hok hl
            rw [he] at this
            simp only [BX.b]
            cases t with
            | true => simp only [if_true, pick_mv a hs ka h1]; exact this
            | false => simp only [Bool.false_eq_true, if_false, pick_mv b hs kb h2]; exact this
      | _ => rw [hcv] at hok; exact hok.elim
theorem setg_ES {d : DS} {s : PS} {g : Nat} {b : Bool} (hs : ES d s) (h : pget s.sl g = .fl (.bool b)) : ES (setg d g b) s := by
  refine ⟨?_, hs.bx, hs.hp⟩
  have : ∀ {a : List DC} {l : List PV} (n : Nat), EL a l → pget l n = .fl (.bool b) → EL (dput a n (.bool (.lit b))) l := by
    intro a
    induction a with
    | nil => intro l n h _; exact h
    | cons c a ih =>
      intro l n h hg
      cases l with
      | nil => exact h.elim
      | cons p l =>
        cases n with
        | zero => exact ⟨.inr hg, h.2⟩
        | succ n => exact ⟨h.1, ih n h.2 hg⟩
  exact this g hs.sl h
theorem doper_s {o : DOper} (ho : AllD o.op.obs) {K : DS → DT} {k : PS → Prop} (hK : Rest E D' K k) : Rest E D' (doper o K) (fun s => poper o.er k s) := by
  intro d s hs hok hl
  have skip : ∀ {d s}, ES d s → (K (d.put o.dst (.tup []))).ok.den → (K (d.put o.dst (.tup []))).lf = some (E, D') → k (s.put o.dst (.tup [])) := fun hs hok hl => hK _ _ (hs.put o.dst (.tup [])) hok hl
  unfold doper at hok hl
  unfold poper
  simp only [DOper.er]
  cases hg : o.guard with
  | none => rw [hg] at hok hl; exact dpop_s ho hK d s hs hok hl
  | some g =>
    obtain ⟨g, want⟩ := g
    rw [hg] at hok hl
    simp only at hok hl ⊢
    have hv := hs.sl.get g
    cases hgv : dget d.sl g with
    | bool t =>
      rw [hgv] at hok hl hv
      have hp := hv.of (by simp)
      simp only [DV.enc] at hp
      rw [hp]
      simp only
      cases t with
      | lit t =>
        simp only at hok hl
        by_cases hw : t = want
        · rw [if_pos (by simpa using hw)] at hok hl
          rw [if_pos (show (BX.lit t).b = want from hw)]
          exact dpop_s ho hK d s hs hok hl
        · rw [if_neg (by simpa using hw)] at hok hl
          rw [if_neg (show ¬ (BX.lit t).b = want from hw)]
          exact skip hs hok hl
      | dyn t =>
        simp only [BX.b] at hp ⊢
        have hok := (PX.if_den _ _ _).mp hok
        have hs2 := setg_ES hs hp
        cases t with
        | true =>
          have hok := hok.1 rfl
          simp only [DT.lf] at hl
          cases want with
          | true => exact dpop_s ho hK _ s hs2 hok hl
          | false => exact skip hs2 hok hl
        | false =>
          have hok := hok.2 rfl
          simp only [DT.lf] at hl
          cases want with
          | true => exact skip hs2 hok hl
          | false => exact dpop_s ho hK _ s hs2 hok hl
    | tup vs =>
      cases vs with
      | nil =>
        rw [hgv] at hok hl hv
        have hp := hv.of (by simp)
        simp only [DV.enc, DV.encL] at hp
        rw [hp]
        exact skip hs hok hl
      | cons v r => rw [hgv] at hok; exact hok.elim
    | _ => rw [hgv] at hok; exact hok.elim
theorem dops_s : ∀ (ops : List DOper), AllD (dopsObs ops) → ∀ {k : PS → Prop}, E = .normal → (∀ s, ES D' s → k s) → Rest E D' (dops ops) (fun s => pops (ops.map fun o => o.er) k s)
  | [], _, k, hE, hk => by
    intro d s hs hok hl
    simp only [dops, DT.lf, Option.some.injEq, Prod.mk.injEq] at hl
    obtain ⟨_, rfl⟩ := hl
    exact hk s hs
  | o :: r, ho, k, hE, hk => by
    obtain ⟨h1, h2⟩ := ho.app
    exact doper_s h1 (dops_s r h2 hE hk)
end
theorem dpop_all {o : DOp} {dst : Option Nat} {K : DS → DT} {b : DS} (hK : ∀ d, ChgS b d → (K d).All (ChgS b)) : ∀ d, ChgS b d → (dpop o dst K d).All (ChgS b) := by
  intro d hd
  cases o with
  | call m f p D args =>
    simp only [dpop]
    cases hc : dcall D args (if m = true then dfzArgs args d else d) with
    | none => trivial
    | some r =>
      obtain ⟨g, v, d1⟩ := r
      obtain ⟨rfl, _⟩ := dcall_st hc
      refine DT.chk_all _ (hK _ ((hd.trans ?_).trans (ChgS.put _ _ _)))
      cases m with
      | true => exact DS.fzArgs_chg args d
      | false => exact ChgS.refl d
  | aw ws m o ty =>
    simp only [dpop]
    cases hst : dstepW ws m o ty d with
    | none => trivial
    | some r =>
      obtain ⟨g, v, d1⟩ := r
      exact DT.chk_all _ (hK _ ((hd.trans (dstepW_chg hst)).trans (ChgS.put _ _ _)))
  | mark f M x y =>
    simp only [dpop]
    cases hst : dmark M x y d with
    | none => trivial
    | some r =>
      obtain ⟨g, v, d1⟩ := r
      exact DT.chk_all _ (hK _ ((hd.trans (dmark_chg hst)).trans (ChgS.put _ _ _)))
  | callp m f p D args =>
    simp only [dpop]
    cases hc : dcallp D args (if m = true then dfzArgs args d else d) with
    | none => trivial
    | some r =>
      obtain ⟨g, v, d1⟩ := r
      obtain ⟨h1, _⟩ := dcallp_st hc
      refine DT.chk_all _ (hK _ (((hd.trans ?_).trans h1).trans (ChgS.put _ _ _)))
      cases m with
      | true => exact DS.fzArgs_chg args d
      | false => exact ChgS.refl d
  | a m o ty =>
    have gen : (match dstep m o ty d with | some (g, v, st) => DT.chk' g (K (st.put dst v)) | none => DT.bad).All (ChgS b) := by
      cases hst : dstep m o ty d with
      | none => trivial
      | some r =>
        obtain ⟨g, v, d1⟩ := r
        exact DT.chk_all _ (hK _ ((hd.trans (dstep_chg hst)).trans (ChgS.put _ _ _)))
    cases o <;> first | exact gen | skip
    case pick c x y =>
      simp only [dpop]
      have one : ∀ (x : Opnd), (match dmvOut x d with | (v, st) => if v.ok = true then K (st.put dst v) else DT.bad).All (ChgS b) := by
        intro x
        simp only
        split
        · exact hK _ ((hd.trans (ChgS.mvOut x d)).trans (ChgS.put _ _ _))
        · trivial
      cases hcv : c.dev d.sl with
      | bool t =>
        cases t with
        | lit t => cases t <;> exact one _
        | dyn t =>
          simp only
          split
          · exact ⟨one x, one y⟩
          · exact hK _ (hd.trans (ChgS.put _ _ _))
      | _ => trivial
theorem setg_chg (d : DS) (g : Nat) (t : Bool) : ChgS d (setg d g t) := ⟨Chg.put _ _ _, ChgB.refl _, ChgB.refl _⟩
theorem doper_all {o : DOper} {K : DS → DT} {b : DS} (hK : ∀ d, ChgS b d → (K d).All (ChgS b)) : ∀ d, ChgS b d → (doper o K d).All (ChgS b) := by
  intro d hd
  unfold doper
  have hp := dpop_all (o := o.op) (dst := o.dst) hK
  cases hg : o.guard with
  | none => exact hp d hd
  | some g =>
    obtain ⟨g, want⟩ := g
    simp only
    cases hgv : dget d.sl g with
    | bool t =>
      cases t with
      | lit t =>
        simp only
        split
        · exact hp d hd
        · exact hK _ (hd.trans (ChgS.put _ _ _))
      | dyn t =>
        have h1 := hd.trans (setg_chg d g true)
        have h2 := hd.trans (setg_chg d g false)
        cases want with
        | true => exact ⟨hp _ h1, hK _ (h2.trans (ChgS.put _ _ _))⟩
        | false => exact ⟨hK _ (h1.trans (ChgS.put _ _ _)), hp _ h2⟩
    | tup vs =>
      cases vs with
      | nil => exact hK _ (hd.trans (ChgS.put _ _ _))
      | cons v r => trivial
    | _ => trivial
theorem dops_all {b : DS} : ∀ (ops : List DOper) (d : DS), ChgS b d → (dops ops d).All (ChgS b)
  | [], _, h => h
  | _ :: r, d, h => doper_all (dops_all r) d h
theorem dops_n : ∀ (ops : List DOper) {d d' : DS} {e : AExit}, (dops ops d).lf = some (e, d') → e = .normal := by
  intro ops
  have pick : ∀ {K : DS → DT} {e : AExit} {d' : DS}, (∀ d, (K d).lf = some (e, d') → e = .normal) → ∀ (o : DOp) (dst : Option Nat) (d : DS), (dpop o dst K d).lf = some (e, d') → e = .normal := by
    intro K e d' hK o dst d hl
    cases o with
    | call m f p D args =>
      simp only [dpop] at hl
      split at hl
      · rw [DT.chk_lf] at hl; exact hK _ hl
      · cases hl
    | aw ws m o ty =>
      simp only [dpop] at hl
      split at hl
      · rw [DT.chk_lf] at hl; exact hK _ hl
      · cases hl
    | mark f M x y =>
      simp only [dpop] at hl
      split at hl
      · rw [DT.chk_lf] at hl; exact hK _ hl
      · cases hl
    | callp m f p D args =>
      simp only [dpop] at hl
      split at hl
      · rw [DT.chk_lf] at hl; exact hK _ hl
      · cases hl
    | a m o ty =>
      have gen : (match dstep m o ty d with | some (g, v, st) => DT.chk' g (K (st.put dst v)) | none => DT.bad).lf = some (e, d') → e = .normal := by
        intro hl
        split at hl
        · rw [DT.chk_lf] at hl; exact hK _ hl
        · cases hl
      cases o <;> first | exact gen hl | skip
      case pick c x y =>
        simp only [dpop] at hl
        have one : ∀ (x : Opnd), (match dmvOut x d with | (v, st) => if v.ok = true then K (st.put dst v) else DT.bad).lf = some (e, d') → e = .normal := by
          intro x hl
          simp only at hl
          split at hl
          · exact hK _ hl
          · cases hl
        cases hcv : c.dev d.sl with
        | bool t =>
          rw [hcv] at hl
          cases t with
          | lit t => cases t <;> exact one _ hl
          | dyn t =>
            simp only at hl
            split at hl
            · cases t <;> exact one _ hl
            · exact hK _ hl
        | _ => rw [hcv] at hl; cases hl
  induction ops with
  | nil =>
    intro d d' e hl
    simp only [dops, DT.lf, Option.some.injEq, Prod.mk.injEq] at hl
    exact hl.1.symm
  | cons o r ih =>
    intro d d' e hl
    have hr : ∀ d, (dops r d).lf = some (e, d') → e = .normal := fun d h => ih h
    simp only [dops] at hl
    unfold doper at hl
    cases hg : o.guard with
    | none => rw [hg] at hl; exact pick hr _ _ _ hl
    | some g =>
      obtain ⟨g, want⟩ := g
      rw [hg] at hl
      simp only at hl
      cases hgv : dget d.sl g with
      | bool t =>
        rw [hgv] at hl
        cases t with
        | lit t =>
          simp only at hl
          split at hl
          · exact pick hr _ _ _ hl
          · exact hr _ hl
        | dyn t =>
          cases t <;> cases want <;> first | exact pick hr _ _ _ hl | exact hr _ hl
      | tup vs =>
        rw [hgv] at hl
        cases vs with
        | nil => exact hr _ hl
        | cons v r => cases hl
      | _ => rw [hgv] at hl; cases hl
theorem EL.put1 {v : DV} : ∀ {a : List DC} {b : List PV} (n : Nat), EL a b → EV v (pget b n) → EL (dput a n v) b
  | [], _, _, h, _ => h
  | _ :: _, [], _, h, _ => h.elim
  | _ :: _, _ :: _, 0, h, hv => ⟨hv, h.2⟩
  | _ :: _, _ :: _, n + 1, h, hv => ⟨h.1, EL.put1 n h.2 hv⟩
theorem EBx.put1 {v : DV} {a : List DC} {b : List PV} (n : Nat) (h : EBx a b) (hv : EV v (pget b n)) : EBx (dput a n v) b := by
  rcases h with rfl | h
  · exact .inl rfl
  · exact .inr (h.put1 n hv)
theorem EB.put1 {v : List DC} : ∀ {a : List (List DC)} {b : List (List PV)} (n : Nat), EB a b → EBx v (pgetB b n) → EB (dputB a n v) b
  | [], _, _, h, _ => h
  | _ :: _, [], _, h, _ => h.elim
  | _ :: _, _ :: _, 0, h, hv => ⟨hv, h.2⟩
  | _ :: _, _ :: _, n + 1, h, hv => ⟨h.1, EB.put1 n h.2 hv⟩
def PS.at (s : PS) : Pl → PV
  | .s i => pget s.sl i
  | .b i c => pget (pgetB s.bx i) c
  | .h i c => pget (pgetB s.hp i) c
theorem EBx.get {a : List DC} {b : List PV} (n : Nat) (h : EBx a b) : EV (dget a n) (pget b n) := by
  rcases h with rfl | h
  · exact .inl rfl
  · exact h.get n
theorem ES.at {d : DS} {s : PS} (h : ES d s) (pl : Pl) : EV (d.at pl) (s.at pl) := by
  cases pl with
  | s i => exact h.sl.get i
  | b i c => exact (h.bx.get i).get c
  | h i c => exact (h.hp.get i).get c
theorem ES.wr {d : DS} {s : PS} (h : ES d s) (pl : Pl) {v : DV} (hv : EV v (s.at pl)) : ES (d.wr v pl) s := by
  cases pl with
  | s i => exact ⟨h.sl.put1 i hv, h.bx, h.hp⟩
  | b i c => exact ⟨h.sl, h.bx.put1 i ((h.bx.get i).put1 c hv), h.hp⟩
  | h i c => exact ⟨h.sl, h.bx, h.hp.put1 i ((h.hp.get i).put1 c hv)⟩
theorem ct_ofQ {q : Ql} {t : CT} {v : DV} {x : t.D} (h : t.ofQ q v = some x) : (t.dv q x).enc = v.enc ∧ v ≠ .any := by
  cases t with
  | int k =>
    cases v <;> try (cases h; done)
    rename_i k' n
    have h' : (if IntKind.same k k' = true then some n else none) = some x := h
    clear h
    split at h'
    · rename_i hk; have := same_eq hk; subst this
      have h' := Option.some.inj h'
      subst h'
      exact ⟨rfl, by simp⟩
    · cases h'
  | bool =>
    cases v <;> try (cases h; done)
    have h := Option.some.inj h
    subst h; exact ⟨rfl, by simp⟩
  | str =>
    cases v <;> try (cases h; done)
    have h := Option.some.inj h
    subst h; exact ⟨rfl, by simp⟩
  | ifc =>
    cases v <;> try (cases h; done)
    have h := Option.some.inj h
    subst h; exact ⟨rfl, by simp⟩
  | sl r =>
    cases v <;> try (cases h; done)
    case nil q' =>
      have h' : (if qeq q q' = true then some ([] : List r.D) else none) = some x := h
      clear h
      split at h'
      · rename_i hq; have := qeq_eq hq; subst this
        have h' := Option.some.inj h'
        subst h'; exact ⟨rfl, by simp⟩
      · cases h'
    case sl q' r' l =>
      have h' : (if qeq q q' = true then castL (r' := r') (r := r) l else none) = some x := h
      clear h
      split at h'
      · rename_i hq; have := qeq_eq hq; subst this
        refine ⟨?_, by simp⟩
        show PV.sl q _ = PV.sl q _
        rw [(castL_eq h').2]
      · cases h'
theorem ag_of : ∀ {l : List (Ql × CT)} {vs : List DV} {x : AgX l}, agOf l vs = some x → DV.encL (agDv l x) = DV.encL vs
  | [], [], _, _ => rfl
  | [a], [v], x, h => by
    show [(a.2.dv a.1 x).enc] = [v.enc]
    rw [(ct_ofQ (q := a.1) (t := a.2) h).1]
  | a :: b :: r, v :: vs, x, h => by
    have h' : (match a.2.ofQ a.1 v, agOf (b :: r) vs with | some x, some y => some (x, y) | _, _ => none) = some x := h
    clear h
    cases h1 : a.2.ofQ a.1 v with
    | none => rw [h1] at h'; cases h'
    | some p =>
      cases h2 : agOf (b :: r) vs with
      | none => rw [h1, h2] at h'; cases h'
      | some q =>
        rw [h1, h2] at h'
        have h' := Option.some.inj h'
        subst h'
        show (a.2.dv a.1 p).enc :: DV.encL (agDv (b :: r) q) = v.enc :: DV.encL vs
        rw [(ct_ofQ h1).1, ag_of h2]
theorem ht_of {t : HT} {v : DV} {x : t.D} (h : t.of v = some x) : (t.dv x).enc = v.enc ∧ v ≠ .any := by
  cases t with
  | one q t => exact ct_ofQ (q := q) (t := t) h
  | agg l =>
    cases v <;> try (cases h; done)
    rename_i cs
    refine ⟨?_, by simp⟩
    show PV.agg _ = PV.agg _
    rw [ag_of (l := l) h]
theorem wr_rd {A : DS} {s : PS} (hA : ES A s) : ∀ (H : List Hole) {K : DS} {x : HoX H}, ES K s → rdX A H = some x → ES (wrX K H x) s
  | [], K, x, hK, _ => hK
  | [a], K, x, hK, h => by
    have h : a.t.of (A.at a.pl) = some x := h
    obtain ⟨h1, h2⟩ := ht_of h
    refine hK.wr a.pl (.inr ?_)
    rw [h1, (hA.at a.pl).of h2]
  | a :: b :: r, K, x, hK, h => by
    have h' : (match a.t.of (A.at a.pl), rdX A (b :: r) with | some x, some y => some (x, y) | _, _ => none) = some x := h
    clear h
    cases h1 : a.t.of (A.at a.pl) with
    | none => rw [h1] at h'; cases h'
    | some p =>
      cases h2 : rdX A (b :: r) with
      | none => rw [h1, h2] at h'; cases h'
      | some q =>
        rw [h1, h2] at h'
        have h' := Option.some.inj h'
        subst h'
        obtain ⟨h3, h4⟩ := ht_of h1
        refine wr_rd hA (b :: r) (x := q) (hK.wr a.pl (.inr ?_)) h2
        rw [h3, (hA.at a.pl).of h4]
theorem wr_chg (d : DS) (v : DV) (pl : Pl) : ChgS d (d.wr v pl) := by
  cases pl with
  | s i => exact ⟨Chg.put _ _ _, ChgB.refl _, ChgB.refl _⟩
  | b i c => exact ⟨Chg.refl _, ChgB.put _ _ (Chg.put _ _ _), ChgB.refl _⟩
  | h i c => exact ⟨Chg.refl _, ChgB.refl _, ChgB.put _ _ (Chg.put _ _ _)⟩
theorem wrX_chg : ∀ (H : List Hole) (d : DS) (x : HoX H), ChgS d (wrX d H x)
  | [], d, _ => ChgS.refl d
  | [a], d, _ => wr_chg d _ _
  | a :: b :: r, d, x => (wr_chg d _ _).trans (wrX_chg (b :: r) _ _)
def LeC : List DC → List DC → Prop
  | [], [] => True
  | k :: a, b :: r => (k.v = .any ∨ k.v = b.v) ∧ LeC a r
  | _, _ => False
def LeB : List (List DC) → List (List DC) → Prop
  | [], [] => True
  | k :: a, b :: r => (k = [] ∨ LeC k b) ∧ LeB a r
  | _, _ => False
structure LeS (k b : DS) : Prop where
  sl : LeC k.sl b.sl
  bx : LeB k.bx b.bx
  hp : LeB k.hp b.hp
theorem LeC.refl : ∀ (k : List DC), LeC k k
  | [] => trivial
  | _ :: r => ⟨.inr rfl, LeC.refl r⟩
theorem LeB.refl : ∀ (k : List (List DC)), LeB k k
  | [] => trivial
  | k :: r => ⟨.inr (LeC.refl k), LeB.refl r⟩
theorem LeC.put {v : DV} : ∀ {k b : List DC} (n : Nat), LeC k b → dget k n = .any → LeC k (dput b n v)
  | [], [], _, h, _ => h
  | [], _ :: _, _, h, _ => h.elim
  | _ :: _, [], _, h, _ => h.elim
  | _ :: _, _ :: _, 0, h, ha => ⟨.inl ha, h.2⟩
  | _ :: _, _ :: _, n + 1, h, ha => ⟨h.1, LeC.put n h.2 ha⟩
theorem LeB.put {v : DV} : ∀ {k b : List (List DC)} (i c : Nat), LeB k b → dget (dgetB k i) c = .any → LeB k (dputB b i (dput (dgetB b i) c v))
  | [], [], _, _, h, _ => h
  | [], _ :: _, _, _, h, _ => h.elim
  | _ :: _, [], _, _, h, _ => h.elim
  | _ :: _, _ :: _, 0, c, h, ha => ⟨h.1.imp id fun h => h.put c ha, h.2⟩
  | _ :: _, _ :: _, n + 1, c, h, ha => ⟨h.1, LeB.put n c h.2 ha⟩
theorem isAny_eq {v : DV} (h : v.isAny = true) : v = .any := by cases v <;> first | rfl | cases h
theorem LeS.wr {k b : DS} {v : DV} {pl : Pl} (h : LeS k b) (ha : (k.at pl).isAny = true) : LeS k (b.wr v pl) := by
  have ha := isAny_eq ha
  cases pl with
  | s i => exact ⟨h.sl.put i ha, h.bx, h.hp⟩
  | b i c => exact ⟨h.sl, h.bx.put i c ha, h.hp⟩
  | h i c => exact ⟨h.sl, h.bx, h.hp.put i c ha⟩
theorem LeS.wrX {k : DS} : ∀ (H : List Hole) {b : DS} (x : HoX H), LeS k b → holesAny k H = true → LeS k (Go.Ag.wrX b H x)
  | [], _, _, h, _ => h
  | [a], _, _, h, ha => by
    simp only [holesAny, Bool.and_eq_true] at ha
    exact h.wr ha.1
  | a :: b :: r, _, x, h, ha => by
    have ha' : (k.at a.pl).isAny = true ∧ holesAny k (b :: r) = true := by
      have : ((k.at a.pl).isAny && holesAny k (b :: r)) = true := ha
      simpa [Bool.and_eq_true] using this
    exact LeS.wrX (b :: r) _ (h.wr ha'.1) ha'.2
theorem same_enc {a b : DV} (h : a.same b = true) : a.enc = b.enc ∧ b ≠ .any := by
  cases a <;> cases b <;> first | (cases h; done) | skip
  case undef.undef => exact ⟨rfl, by simp⟩
  case nil.nil q q' => have := qeq_eq h; subst this; exact ⟨rfl, by simp⟩
  case box.box => simp only [DV.same, Bool.and_eq_true, beq_iff_eq] at h; obtain ⟨rfl, rfl⟩ := h; exact ⟨rfl, by simp⟩
  case ptr.ptr => simp only [DV.same, Bool.and_eq_true, beq_iff_eq] at h; obtain ⟨rfl, rfl⟩ := h; exact ⟨rfl, by simp⟩
theorem fitC_s : ∀ {k b y : List DC} {p : List PV}, fitC k y = true → LeC k b → Chg (Go.Ag.clean b) y → EL y p → EL k p
  | [], _, [], p, _, _, _, h => h
  | [], _, _ :: _, _, h, _, _, _ => by cases h
  | _ :: _, _, [], _, h, _, _, _ => by cases h
  | _ :: _, [], _ :: _, _, _, h, _, _ => h.elim
  | _ :: _, _ :: _, _ :: _, [], _, _, _, h => h.elim
  | k :: a, b :: r, y :: l, q :: p, h, hl, hc, he => by
    simp only [fitC, Bool.and_eq_true, Bool.or_eq_true] at h
    refine ⟨?_, fitC_s h.2 hl.2 hc.2 he.2⟩
    rcases h.1 with (h1 | h1) | h1
    · exact .inl (isAny_eq h1)
    · rcases hl.1 with h2 | h2
      · exact .inl h2
      · rcases hc.1 with h3 | h3
        · simp [h3] at h1
        · have : y.v = k.v := by rw [h3, h2]
          rcases he.1 with h4 | h4
          · exact .inl (by rw [← this]; exact h4)
          · exact .inr (by rw [← this]; exact h4)
    · obtain ⟨h2, h3⟩ := same_enc h1
      rcases he.1 with h4 | h4
      · exact absurd h4 h3
      · exact .inr (by rw [h2]; exact h4)
theorem fitB_s : ∀ {k b y : List (List DC)} {p : List (List PV)}, fitB k y = true → LeB k b → ChgB (cleanB b) y → EB y p → EB k p
  | [], _, [], p, _, _, _, h => h
  | [], _, _ :: _, _, h, _, _, _ => by cases h
  | _ :: _, _, [], _, h, _, _, _ => by cases h
  | _ :: _, [], _ :: _, _, _, h, _, _ => h.elim
  | _ :: _, _ :: _, _ :: _, [], _, _, _, h => h.elim
  | k :: a, b :: r, y :: l, q :: p, h, hl, hc, he => by
    simp only [fitB, Bool.and_eq_true, Bool.or_eq_true, beq_iff_eq] at h
    refine ⟨?_, fitB_s h.2 hl.2 hc.2 he.2⟩
    rcases h.1 with h1 | h1
    · exact .inl (List.eq_nil_of_length_eq_zero h1)
    · rcases hl.1 with h2 | h2
      · exact .inl h2
      · rcases he.1 with h3 | h3
        · subst h3
          cases k with
          | nil => exact .inl rfl
          | cons => cases h1
        · exact .inr (fitC_s h1 h2 hc.1 h3)
theorem fitS_s {k b y : DS} {s : PS} (h : fitS k y = true) (hl : LeS k b) (hc : ChgS b.clean y) (he : ES y s) : ES k s := by
  simp only [fitS, Bool.and_eq_true] at h
  exact ⟨fitC_s h.1.1 hl.sl hc.sl he.sl, fitB_s h.1.2 hl.bx hc.bx he.bx, fitB_s h.2 hl.hp hc.hp he.hp⟩
theorem clsL_s (pl : Nat → Pl) : ∀ (n : Nat) (x y : List DC), Chg x (clsL pl n x y).2 ∧ ∀ p, EL x p → EL (clsL pl n x y).2 p
  | _, [], _ => ⟨trivial, fun _ h => h⟩
  | _, _ :: _, [] => ⟨Chg.refl _, fun _ h => h⟩
  | n, x :: a, y :: b => by
    obtain ⟨h1, h2⟩ := clsL_s pl (n + 1) a b
    simp only [clsL]
    cases hr : clsL pl (n + 1) a b with
    | mk H l =>
      rw [hr] at h1 h2
      cases cls x.v y with
      | left => exact ⟨⟨.inr rfl, h1⟩, fun p h => by cases p with | nil => exact h | cons q p => exact ⟨h.1, h2 p h.2⟩⟩
      | hole t => exact ⟨⟨.inl rfl, h1⟩, fun p h => by cases p with | nil => exact h | cons q p => exact ⟨.inl rfl, h2 p h.2⟩⟩
      | kill => exact ⟨⟨.inl rfl, h1⟩, fun p h => by cases p with | nil => exact h | cons q p => exact ⟨.inl rfl, h2 p h.2⟩⟩
theorem clsB_s (pl : Nat → Nat → Pl) : ∀ (n : Nat) (x y : List (List DC)), ChgB x (clsB pl n x y).2 ∧ ∀ p, EB x p → EB (clsB pl n x y).2 p
  | _, [], _ => ⟨trivial, fun _ h => h⟩
  | _, _ :: _, [] => ⟨ChgB.refl _, fun _ h => h⟩
  | n, x :: a, y :: b => by
    obtain ⟨h1, h2⟩ := clsB_s pl (n + 1) a b
    simp only [clsB]
    cases hr : clsB pl (n + 1) a b with
    | mk H l =>
      rw [hr] at h1 h2
      simp only
      split
      · obtain ⟨h3, h4⟩ := clsL_s (pl n) 0 x y
        cases hc : clsL (pl n) 0 x y with
        | mk H' x' =>
          rw [hc] at h3 h4
          exact ⟨⟨h3, h1⟩, fun p h => by
            cases p with
            | nil => exact h
            | cons q p => exact ⟨h.1.elim (fun e => by subst e; cases y <;> (simp only [clsL] at hc; simp only [Prod.mk.injEq] at hc; exact .inl hc.2.symm)) fun h => .inr (h4 q h), h2 p h.2⟩⟩
      · exact ⟨⟨by cases x <;> trivial, h1⟩, fun p h => by cases p with | nil => exact h | cons q p => exact ⟨.inl rfl, h2 p h.2⟩⟩
theorem clsS_s (x y : DS) : ChgS x (clsS x y).2 ∧ ∀ s, ES x s → ES (clsS x y).2 s := by
  obtain ⟨h1, h2⟩ := clsL_s .s 0 x.sl y.sl
  obtain ⟨h3, h4⟩ := clsB_s .b 0 x.bx y.bx
  obtain ⟨h5, h6⟩ := clsB_s .h 0 x.hp y.hp
  exact ⟨⟨h1, h3, h5⟩, fun s h => ⟨h2 _ h.sl, h4 _ h.bx, h6 _ h.hp⟩⟩
theorem dhead_s {live : List Nat} {body : DS → DT} {A : DS} : ∀ {n : Nat} {cur : DS} {H : List Hole} {K : DS}, dhead live body A n cur = some (H, K) → ∃ Y, clsS A Y = (H, K)
  | 0, cur, H, K, h => by
    simp only [dhead] at h
    split at h
    · rename_i m _
      exact ⟨_, Option.some.inj h⟩
    · cases h
  | n + 1, cur, H, K, h => by
    simp only [dhead] at h
    split at h
    · split at h
      · exact dhead_s h
      · cases h
    · cases h
theorem keepS_chg (live : List Nat) (d : DS) : ChgS d (keepS live d) := ⟨Chg.keep _ _ _, ChgB.refl _, ChgB.refl _⟩
theorem trimS_chg (live : List Nat) (d : DS) : ChgS d (trimS live d) := ⟨Chg.trim _ _ _, ChgB.refl _, ChgB.refl _⟩
theorem dloop_s {live : List Nat} {n : Nat} {body : DS → DT} {pb : PKont → PS → Prop} (hall : ∀ d, (body d).All (ChgS d.clean))
    (hb : ∀ d s e d' (k : PKont), ES d s → (body d).ok.den → (body d).lf = some (e, d') → (∀ s', ES d' s' → k e s') → pb k s)
    {d d' : DS} {s : PS} {e : AExit} {k : PKont} (hs : ES d s) (hok : (dloop live n body d).ok.den) (hl : (dloop live n body d).lf = some (e, d')) (hk : ∀ s', ES d' s' → k e s') : ∃ n, piter pb live k n s := by
  have hA : ES (keepS live d) { s with sl := pkeep live 0 s.sl } := hs.keep live
  unfold dloop at hok hl
  split at hok
  · rename_i hn
    rw [if_pos hn] at hl
    rw [DT.map_ok] at hok
    rw [DT.map_lf] at hl
    obtain ⟨e0, d0, h0⟩ := DT.ok_lf hok
    rw [h0] at hl
    simp only [Option.map_some, Option.some.injEq, Prod.mk.injEq] at hl
    obtain ⟨rfl, rfl⟩ := hl
    have hn : (body (keepS live d)).norm = .none := by cases h : (body (keepS live d)).norm <;> rw [h] at hn <;> first | rfl | cases hn
    have he := DT.norm_none hn h0
    refine ⟨1, hb _ _ _ _ _ hA hok h0 fun s' hs' => ?_⟩
    cases e0 <;> first | (cases he; done) | exact hk _ hs'.rem
  · rename_i hn
    rw [if_neg hn] at hl
    split at hok
    · exact hok.elim
    · rename_i H K hd
      rw [hd] at hl
      simp only at hl
      obtain ⟨Y, hY⟩ := dhead_s hd
      split at hok
      · exact hok.elim
      · rename_i x0 hx0
        rw [hx0] at hl
        simp only at hl
        split at hok
        · rename_i hh
          rw [if_pos hh] at hl
          simp only [DT.ok, PX.land_den, PX.den] at hok
          obtain ⟨hlo, _⟩ := hok
          simp only [DT.lf] at hl
          have hK : ES K { s with sl := pkeep live 0 s.sl } := by
            have := (clsS_s (keepS live d) Y).2 _ hA
            rw [hY] at this; exact this
          have h0 : ES (wrX K H x0) { s with sl := pkeep live 0 s.sl } := wr_rd hA H hK hx0
          have hto := hlo.to
          have hle : ∀ x, LeS K (wrX K H x) := fun x => LeS.wrX H x ⟨LeC.refl _, LeB.refl _, LeB.refl _⟩ hh
          have main : ∀ {x y : HoX H}, LoopTo (lcond body K H) (lnext live body K H) (fun x => (lgood live body K H x).den) x y →
              ((lT body K H y).drop.map (remS (wrX K H y))).lf = some (e, d') →
              ∃ n, ∀ s : PS, ES (wrX K H x) { s with sl := pkeep live 0 s.sl } → piter pb live k n s := by
            intro x y h
            induction h with
            | stop hg hc =>
              rename_i x
              intro hl
              have hg := ((PX.land_den _ _).mp hg).1
              obtain ⟨e0, d0, h0⟩ := DT.ok_lf hg
              have he : e0.isN = false := by
                unfold lcond at hc
                cases hcc : (lT body K H x).cont with
                | none => rw [DT.cont_none hcc] at h0; cases h0
                | some b => rw [hcc] at hc; rw [← DT.cont_s hcc h0]; exact hc
              rw [DT.map_lf, DT.drop_lf h0 he] at hl
              simp only [Option.map_some, Option.some.injEq, Prod.mk.injEq] at hl
              obtain ⟨rfl, rfl⟩ := hl
              refine ⟨1, fun s hs => hb _ _ _ _ _ hs hg h0 fun s' hs' => ?_⟩
              cases e0 <;> first | (cases he; done) | exact hk _ hs'.rem
            | go hg hc h3 ih =>
              rename_i x y'
              intro hl
              obtain ⟨n, ih⟩ := ih hl
              have hg2 := (PX.land_den _ _).mp hg
              obtain ⟨e0, d0, h0⟩ := DT.ok_lf hg2.1
              have he : e0 = .normal := by
                unfold lcond at hc
                cases hcc : (lT body K H x).cont with
                | none => rw [DT.cont_none hcc] at h0; cases h0
                | some b =>
                  rw [hcc] at hc
                  have := DT.cont_s hcc h0
                  rw [show b.b = true from hc] at this
                  cases e0 <;> first | rfl | cases this
              subst he
              refine ⟨n + 1, fun s hs => hb _ _ _ _ _ hs hg2.1 h0 fun s' hs' => ?_⟩
              refine ih s' ?_
              have hg3 := hg2.2
              cases hnm : (lT body K H x).norm with
              | none => have := DT.norm_none hnm h0; cases this
              | fail => rw [hnm] at hg3; exact hg3.elim
              | some m =>
                rw [hnm] at hg3
                simp only at hg3
                split at hg3
                · rename_i hf
                  simp only [Bool.and_eq_true] at hf
                  obtain ⟨hf1, hf2⟩ := hf
                  have hm : ES m s' := DT.norm_s (hall _) hnm h0 hs'
                  have hm2 := hm.keep live
                  have hch : ChgS (wrX K H x).clean (keepS live m) := (DT.norm_chg (hall _) hnm).trans (keepS_chg live m)
                  have hK' := fitS_s hf1 (hle x) hch hm2
                  obtain ⟨y2, hy2⟩ := Option.isSome_iff_exists.mp hf2
                  have hnx : lnext live body K H x = y2 := by unfold lnext; rw [hnm]; simp only [hy2]
                  rw [hnx]
                  exact wr_rd hm2 H hK' hy2
                · exact hg3.elim
          obtain ⟨n, hn⟩ := main hto hl
          exact ⟨n, hn s h0⟩
        · exact hok.elim
theorem dloop_all {live : List Nat} {n : Nat} {body : DS → DT} (hall : ∀ d, (body d).All (ChgS d.clean)) (d : DS) : (dloop live n body d).All (ChgS d) := by
  unfold dloop
  split
  · exact DT.map_all (fun st h => (keepS_chg live d).trans h.rem) (hall _)
  · split
    · trivial
    · rename_i H K hd
      obtain ⟨Y, hY⟩ := dhead_s hd
      split
      · trivial
      · split
        · have hK : ChgS d K := by
            have := (clsS_s (keepS live d) Y).1
            rw [hY] at this; exact (keepS_chg live d).trans this
          exact DT.map_all (fun st h => (hK.trans (wrX_chg H K _)).trans h.rem) (DT.drop_all (hall _))
        · trivial
theorem setc_chg (d : DS) (c : Opnd) (t : Bool) : ChgS d (setc d c t) := by
  cases c with
  | t g => exact setg_chg d g t
  | c v => exact ChgS.refl d
theorem setc_ES {d : DS} {s : PS} {c : Opnd} {b : Bool} (hs : ES d s) (h : c.pev s.sl = .fl (.bool b)) : ES (setc d c b) s := by
  cases c with
  | t g => exact setg_ES hs h
  | c v => exact hs
theorem dev_all : ∀ (c : DCode) (d : DS), (dev c d).All (ChgS d)
  | .skip, d => ChgS.refl d
  | .region ops, d => dops_all ops d (ChgS.refl d)
  | .seq l a b, d => by
    refine DT.then_all (dev_all a d.clean) (fun st h => ?_) (fun st h => h.rem)
    have h1 : ChgS d (remS d (trimS l st)) := (h.trans (trimS_chg l st)).rem
    exact DT.All.imp (fun _ h2 => h1.trans h2) (dev_all b _)
  | .cond c a b, d => by
    simp only [dev]
    cases hc : c.dev d.sl with
    | bool t =>
      cases t with
      | lit t => cases t <;> first | exact dev_all a d | exact dev_all b d
      | dyn t => exact ⟨DT.All.imp (fun _ h => (setc_chg d c true).trans h) (dev_all a _), DT.All.imp (fun _ h => (setc_chg d c false).trans h) (dev_all b _)⟩
    | _ => trivial
  | .block i a, d => DT.unexit_all i (dev_all a d)
  | .loop live n a, d => dloop_all (fun d => dev_all a d.clean) d
  | .exit i, d => ChgS.refl d
  | .ret, d => ChgS.refl d
theorem dev_s : ∀ (c : DCode), AllD c.obs → ∀ {d d' : DS} {s : PS} {e : AExit} {k : PKont}, ES d s → (dev c d).ok.den → (dev c d).lf = some (e, d') → (∀ s', ES d' s' → k e s') → pwp c.er k s
  | .skip, _, d, d', s, e, k, hs, hok, hl, hk => by
    simp only [dev, DT.lf, Option.some.injEq, Prod.mk.injEq] at hl
    obtain ⟨rfl, rfl⟩ := hl
    exact hk s hs
  | .region ops, ho, d, d', s, e, k, hs, hok, hl, hk => by
    have he := dops_n ops hl
    subst he
    exact dops_s ops ho rfl hk d s hs hok hl
  | .seq l a b, ho, d, d', s, e, k, hs, hok, hl, hk => by
    obtain ⟨h1, h2⟩ := ho.app
    obtain ⟨hoa, hc⟩ := DT.then_s (dev_all a d.clean) hok hl
    simp only [DCode.er, pwp]
    rcases hc with ⟨st0, m, hla, hm, hch, hob, hlb⟩ | ⟨he, st0, hla, rfl⟩
    · refine dev_s a h1 hs.clean hoa hla fun s' hs' => ?_
      exact dev_s b h2 (((hm s' hs').trim l).rem) hob hlb hk
    · refine dev_s a h1 hs.clean hoa hla fun s' hs' => ?_
      cases e <;> first | (cases he; done) | exact hk s' hs'.rem
  | .cond c a b, ho, d, d', s, e, k, hs, hok, hl, hk => by
    obtain ⟨h1, h2⟩ := ho.app
    have hv := c.dev_ev hs
    simp only [dev] at hok hl
    simp only [DCode.er, pwp]
    cases hc : c.dev d.sl with
    | bool t =>
      rw [hc] at hok hl hv
      have hp := hv.of (by simp)
      simp only [DV.enc] at hp
      rw [hp]
      simp only
      cases t with
      | lit t =>
        cases t with
        | true => exact dev_s a h1 hs hok hl hk
        | false => exact dev_s b h2 hs hok hl hk
      | dyn t =>
        have hok := (PX.if_den _ _ _).mp hok
        cases t with
        | true => exact dev_s a h1 (setc_ES hs hp) (hok.1 rfl) hl hk
        | false => exact dev_s b h2 (setc_ES hs hp) (hok.2 rfl) hl hk
    | _ => rw [hc] at hok; exact hok.elim
  | .block i a, ho, d, d', s, e, k, hs, hok, hl, hk => by
    simp only [dev, DT.unexit_ok, DT.unexit_lf] at hok hl
    obtain ⟨e0, d0, h0⟩ := DT.ok_lf hok
    rw [h0] at hl
    simp only [Option.map_some, Option.some.injEq, Prod.mk.injEq] at hl
    obtain ⟨rfl, rfl⟩ := hl
    refine dev_s a ho hs hok h0 fun s' hs' => ?_
    have := hk s' hs'
    cases e0 with
    | normal => exact this
    | ret => exact this
    | exit j =>
      simp only [pblockK]
      simp only [AExit.un] at this
      split
      · rename_i hj; rw [if_pos hj] at this; exact this
      · rename_i hj; rw [if_neg hj] at this; exact this
  | .loop live n a, ho, d, d', s, e, k, hs, hok, hl, hk => by
    simp only [dev] at hok hl
    exact dloop_s (fun d => dev_all a d.clean) (fun d s e d' k hs hok hl hk => dev_s a ho hs.clean hok hl hk) hs hok hl hk
  | .exit i, _, d, d', s, e, k, hs, hok, hl, hk => by
    simp only [dev, DT.lf, Option.some.injEq, Prod.mk.injEq] at hl
    obtain ⟨rfl, rfl⟩ := hl
    exact hk s hs
  | .ret, _, d, d', s, e, k, hs, hok, hl, hk => by
    simp only [dev, DT.lf, Option.some.injEq, Prod.mk.injEq] at hl
    obtain ⟨rfl, rfl⟩ := hl
    exact hk s hs
mutual
def DV.flt : DV → Bool
  | .bool _ | .int _ _ | .str _ | .ifc _ => true
  | .agg cs => DV.fltL cs
  | .tup vs => DV.fltL vs
  | _ => false
def DV.fltL : List DV → Bool
  | [] => true
  | v :: r => v.flt && DV.fltL r
end
mutual
theorem flt_enc : ∀ (v : DV), v.flt = true → v.enc.flt = true
  | .bool _, _ | .int _ _, _ | .str _, _ | .ifc _, _ => rfl
  | .agg cs, h => fltL_enc cs h
  | .tup cs, h => fltL_enc cs h
theorem fltL_enc : ∀ (l : List DV), DV.fltL l = true → PV.fltL (DV.encL l) = true
  | [], _ => rfl
  | v :: r, h => by
    simp only [DV.fltL, Bool.and_eq_true] at h
    simp only [DV.encL, PV.fltL, flt_enc v h.1, fltL_enc r h.2, Bool.and_self]
end
theorem retL_okL : ∀ (l : List DV), dretL l = true → DV.okL l = true
  | [], _ => rfl
  | v :: r, h => by
    simp only [dretL, Bool.and_eq_true] at h
    have : v.ok = true := by cases v <;> first | rfl | (have := h.1; cases this)
    simp only [DV.okL, this, retL_okL r h.2, Bool.and_self]
theorem EBx.segm2 {a : List DC} {b : List PV} {o n : Nat} (h : EBx a b) (hl : o + n ≤ a.length) (hk : DV.okL (vsegm (vals a) o n) = true) : Go.Ag.segm b o n = DV.encL (vsegm (vals a) o n) ∧ o + n ≤ b.length := by
  rcases h with rfl | h
  · simp only [List.length_nil, Nat.le_zero_eq, Nat.add_eq_zero_iff] at hl
    obtain ⟨rfl, rfl⟩ := hl
    refine ⟨?_, Nat.zero_le _⟩
    cases b <;> rfl
  · exact ⟨h.segm o n hk, by rw [← h.len]; exact hl⟩
theorem dresOf_s {st st' : DS} {s : PS} {r : ARes} {v : DV} (hs : ES st s) (h : dresOf st r = some (v, st')) (hv : v.ok = true) : ∃ s', presOf s r = some (v.enc, s') ∧ ES st' s' := by
  cases r with
  | tmp t =>
    simp only [dresOf] at h
    split at h
    · rename_i hc
      simp only [Bool.and_eq_true] at hc
      simp only [Option.some.injEq] at h
      have hk : (dmvOut (.t t) st).1.ok = true := by
        have : (dmvOut (.t t) st).1 = v := by simp only [dmvOut, h]
        rw [this]; exact hv
      obtain ⟨m1, m2⟩ := mvOut_sound (.t t) hs hk
      have hne : dget st.sl t ≠ .any := by intro e; rw [e] at hc; cases hc.2
      have hp := (hs.sl.get t).of hne
      simp only [dmvOut, h, mvOut] at m1 m2
      refine ⟨(mvS (pget s.sl t) t s).2, ?_, m2⟩
      simp only [presOf]
      rw [if_pos (by rw [hp]; exact retok_enc _ hc.1), ← m1]
    · cases h
  | cell t n =>
    simp only [dresOf] at h
    have hp := hs.sl.get t
    cases hv : dget st.sl t with
    | box i o =>
      rw [hv] at h hp
      have hp := hp.of (by simp)
      simp only at h
      split at h
      · rename_i hc
        simp only [Bool.and_eq_true] at hc
        simp only [Option.map_eq_some_iff] at h
        obtain ⟨⟨g, r⟩, h1, h2⟩ := h
        simp only at h2
        subst h2
        obtain ⟨e1, e2⟩ := (hs.bx.get i).segm2 (Nat.le_of_ble_eq_true hc.1) (retL_okL _ hc.2)
        have hg : g = .tt := by
          unfold dloadB at h1
          simp only [if_true] at h1
          split at h1
          · simp only [Option.map_eq_some_iff, Prod.mk.injEq] at h1
            obtain ⟨_, _, rfl, _⟩ := h1; rfl
          · cases h1
        subst hg
        obtain ⟨s', e3, e4⟩ := dloadB_sound (p := .box i o) hs (.inr rfl) h1
        refine ⟨s', ?_, e4⟩
        simp only [presOf, hp, DV.enc]
        rw [if_pos ⟨e2, by rw [e1]; exact retL_enc _ hc.2⟩]
        exact e3
      · cases h
    | ptr i o =>
      rw [hv] at h hp
      have hp := hp.of (by simp)
      simp only at h
      split at h
      · rename_i hc
        simp only [Bool.and_eq_true] at hc
        simp only [Option.map_eq_some_iff] at h
        obtain ⟨⟨g, r⟩, h1, h2⟩ := h
        simp only at h2
        subst h2
        obtain ⟨e1, e2⟩ := (hs.hp.get i).segm2 (Nat.le_of_ble_eq_true hc.1) (retL_okL _ hc.2)
        have hg : g = .tt ∧ i < st.hp.length := by
          unfold dloadH at h1
          simp only [if_true] at h1
          split at h1
          · rename_i hb
            simp only [Bool.and_eq_true] at hb
            simp only [Option.map_eq_some_iff, Prod.mk.injEq] at h1
            obtain ⟨_, _, rfl, _⟩ := h1
            exact ⟨rfl, Nat.le_of_ble_eq_true hb.1.1⟩
          · cases h1
        obtain ⟨rfl, hi⟩ := hg
        obtain ⟨s', e3, e4⟩ := dloadH_sound (p := .ptr i o) hs (.inr rfl) h1 trivial
        refine ⟨s', ?_, e4⟩
        simp only [presOf, hp, DV.enc]
        rw [if_pos ⟨by rw [← hs.hp.len]; exact hi, e2, by rw [e1]; exact retL_enc _ hc.2⟩]
        exact e3
      · cases h
    | _ => rw [hv] at h; cases h
theorem dresAll_s : ∀ {res : List ARes} {st st' : DS} {s : PS} {vs : List DV}, ES st s → dresAll st res = some (vs, st') → DV.okL vs = true → ∃ s', presAll s res = some (DV.encL vs, s') ∧ ES st' s'
  | [], st, st', s, vs, hs, h, _ => by
    simp only [dresAll, Option.some.injEq, Prod.mk.injEq] at h
    obtain ⟨rfl, rfl⟩ := h
    exact ⟨s, rfl, hs⟩
  | r :: rs, st, st', s, vs, hs, h, hk => by
    simp only [dresAll] at h
    split at h
    · rename_i v st1 h1
      split at h
      · rename_i vs1 st2 h2
        simp only [Option.some.injEq, Prod.mk.injEq] at h
        obtain ⟨rfl, rfl⟩ := h
        simp only [DV.okL, Bool.and_eq_true] at hk
        obtain ⟨s1, e1, e2⟩ := dresOf_s hs h1 hk.1
        obtain ⟨s2, e3, e4⟩ := dresAll_s e2 h2 hk.2
        exact ⟨s2, by simp only [presAll, e1, e3, DV.encL], e4⟩
      · cases h
    · cases h
theorem dresV_s : ∀ {res : List ARes} {st : DS} {s : PS} {v : DV}, ES st s → dresV st res = some v → v.ok = true → ∃ s', presV s res = some (v.enc, s') := by
  have gen : ∀ {res : List ARes} {st : DS} {s : PS} {v : DV}, ES st s → v.ok = true → (dresAll st res).map (fun x => DV.tup x.1) = some v → ∃ s', (presAll s res).map (fun (vs, st) => (PV.tup vs, st)) = some (v.enc, s') := fun hs hv h => by
    simp only [Option.map_eq_some_iff] at h
    obtain ⟨⟨vs, st'⟩, h1, rfl⟩ := h
    obtain ⟨s', e1, _⟩ := dresAll_s hs h1 hv
    exact ⟨s', by rw [e1]; rfl⟩
  intro res st s v hs h hv
  cases res with
  | nil => exact gen (res := []) hs hv h
  | cons r rs =>
    cases rs with
    | nil =>
      simp only [dresV, Option.map_eq_some_iff] at h
      obtain ⟨⟨v', st'⟩, h1, rfl⟩ := h
      obtain ⟨s', e1, _⟩ := dresOf_s hs h1 hv
      exact ⟨s', e1⟩
    | cons r2 rs => exact gen (res := r :: r2 :: rs) hs hv h
theorem val_s {res : List ARes} : ∀ {t : DT} {g : PX} {v : DV}, t.val res = (g, some v) → v ≠ .any → g.den →
    t.ok.den ∧ ∃ e st v0, t.lf = some (e, st) ∧ (∀ i, e ≠ .exit i) ∧ dresV st res = some v0 ∧ v0.ok = true ∧ v.enc = v0.enc
  | .leaf e st, g, v, h, hv, hg => by
    have gen : (match dresV st res with | some v => if (v.ok && !v.hasPtr) = true then (PX.tt, some v) else (PX.ff, none) | none => (PX.ff, none)) = (g, some v) → dresV st res = some v ∧ v.ok = true := fun h => by
      split at h
      · split at h
        · rename_i h1 h2
          simp only [Prod.mk.injEq, Option.some.injEq] at h
          obtain ⟨_, rfl⟩ := h
          simp only [Bool.and_eq_true] at h2
          exact ⟨h1, h2.1⟩
        · simp at h
      · simp at h
    cases e with
    | exit i => simp [DT.val] at h
    | normal => obtain ⟨h1, h2⟩ := gen h; exact ⟨trivial, .normal, st, v, rfl, by simp, h1, h2, rfl⟩
    | ret => obtain ⟨h1, h2⟩ := gen h; exact ⟨trivial, .ret, st, v, rfl, by simp, h1, h2, rfl⟩
  | .node c a b, g, v, h, hv, hg => by
    simp only [DT.val] at h
    have hno : ∀ {t : DT} {g : PX}, t.val res = (g, none) → ¬ g.den := by
      intro t
      induction t with
      | leaf e st =>
        intro g h
        cases e <;> simp only [DT.val] at h <;> (repeat' split at h) <;> simp only [Prod.mk.injEq, reduceCtorEq, and_false, and_true] at h <;> subst h <;> exact id
      | node c x y ih1 ih2 =>
        intro g h hg
        simp only [DT.val] at h
        cases h1 : x.val res with
        | mk g1 v1 =>
          cases h2 : y.val res with
          | mk g2 v2 =>
            rw [h1, h2] at h
            cases v1 with
            | none =>
              simp only [Prod.mk.injEq] at h
              obtain ⟨rfl, rfl⟩ := h
              have := (PX.if_den _ _ _).mp hg
              cases c with
              | true => exact ih1 h1 (this.1 rfl)
              | false => exact ih2 h2 (this.2 rfl)
            | some v1 => cases v2 <;> simp at h
      | chk g0 t ih =>
        intro g h hg
        simp only [DT.val] at h
        cases h1 : t.val res with
        | mk g1 v1 =>
          rw [h1] at h
          simp only [Prod.mk.injEq] at h
          obtain ⟨rfl, rfl⟩ := h
          exact ih h1 ((PX.land_den _ _).mp hg).2
      | bad =>
        intro g h
        simp only [DT.val, Prod.mk.injEq, and_true] at h
        subst h; exact id
    cases h1 : a.val res with
    | mk g1 v1 =>
      cases h2 : b.val res with
      | mk g2 v2 =>
        rw [h1, h2] at h
        have fin : ∀ (v1 v2 : DV), g = PX.if' c g1 g2 → a.val res = (g1, some v1) → b.val res = (g2, some v2) → v = mrgV c v1 v2 → (DT.node c a b).ok.den ∧ ∃ e st v0, (DT.node c a b).lf = some (e, st) ∧ (∀ i, e ≠ .exit i) ∧ dresV st res = some v0 ∧ v0.ok = true ∧ v.enc = v0.enc := by
          intro v1 v2 hgg h1 h2 hvv
          subst hgg
          have hg := (PX.if_den _ _ _).mp hg
          have he := (mrgV_s c v1 v2).resolve_left (by rw [← hvv]; exact hv)
          rw [← hvv] at he
          have n1 : v1 ≠ .any := by rintro rfl; apply hv; rw [hvv]; cases v2 <;> rfl
          have n2 : v2 ≠ .any := by rintro rfl; apply hv; rw [hvv]; cases v1 <;> rfl
          show (PX.if' c a.ok b.ok).den ∧ ∃ e st v0, (DT.node c a b).lf = some (e, st) ∧ (∀ i, e ≠ .exit i) ∧ dresV st res = some v0 ∧ v0.ok = true ∧ v.enc = v0.enc
          rw [PX.if_den]
          cases c with
          | true =>
            obtain ⟨k1, e, st, v0, k2, k3, k4, k5, k6⟩ := val_s h1 n1 (hg.1 rfl)
            exact ⟨⟨fun _ => k1, fun h => by cases h⟩, e, st, v0, k2, k3, k4, k5, by rw [he]; exact k6⟩
          | false =>
            obtain ⟨k1, e, st, v0, k2, k3, k4, k5, k6⟩ := val_s h2 n2 (hg.2 rfl)
            exact ⟨⟨fun h => (by cases h), fun _ => k1⟩, e, st, v0, k2, k3, k4, k5, by rw [he]; exact k6⟩
        cases v1 with
        | none =>
          simp only [Prod.mk.injEq] at h
          obtain ⟨rfl, rfl⟩ := h
          have hg := (PX.if_den _ _ _).mp hg
          show (PX.if' c a.ok b.ok).den ∧ _
          rw [PX.if_den]
          cases c with
          | true => exact absurd (hg.1 rfl) (hno h1)
          | false =>
            obtain ⟨k1, e, st, v0, k2, k3, k4, k5, k6⟩ := val_s h2 hv (hg.2 rfl)
            exact ⟨⟨fun h => (by cases h), fun _ => k1⟩, e, st, v0, k2, k3, k4, k5, k6⟩
        | some v1 =>
          cases v2 with
          | none =>
            simp only [Prod.mk.injEq, Option.some.injEq] at h
            obtain ⟨rfl, rfl⟩ := h
            have hg := (PX.if_den _ _ _).mp hg
            show (PX.if' c a.ok b.ok).den ∧ _
            rw [PX.if_den]
            cases c with
            | false => exact absurd (hg.2 rfl) (hno h2)
            | true =>
              obtain ⟨k1, e, st, v0, k2, k3, k4, k5, k6⟩ := val_s h1 hv (hg.1 rfl)
              exact ⟨⟨fun _ => k1, fun h => by cases h⟩, e, st, v0, k2, k3, k4, k5, k6⟩
          | some v2 =>
            simp only [Prod.mk.injEq, Option.some.injEq] at h
            exact fin v1 v2 h.1.symm h1 h2 h.2.symm
  | .chk g0 t, g, v, h, hv, hg => by
    simp only [DT.val] at h
    cases h1 : t.val res with
    | mk g1 v1 =>
      rw [h1] at h
      simp only [Prod.mk.injEq] at h
      obtain ⟨rfl, rfl⟩ := h
      have hg := (PX.land_den _ _).mp hg
      obtain ⟨k1, k2⟩ := val_s h1 hv hg.2
      exact ⟨(PX.land_den _ _).mpr ⟨hg.1, k1⟩, k2⟩
  | .bad, g, v, h, hv, hg => by simp [DT.val] at h
theorem EL.append : ∀ {a : List DC} {b : List PV} {c : List DC} {d : List PV}, EL a b → EL c d → EL (a ++ c) (b ++ d)
  | [], [], _, _, _, h => h
  | _ :: _, _ :: _, _, _, h, h' => ⟨h.1, EL.append h.2 h'⟩
theorem slots_EL : ∀ (n : Nat), EL (dslots n) (preps n)
  | 0 => trivial
  | n + 1 => ⟨.inl rfl, slots_EL n⟩
theorem boxes_EB : ∀ (n : Nat), EB (dboxes n) (prepb n)
  | 0 => trivial
  | n + 1 => ⟨.inl rfl, boxes_EB n⟩
theorem dfun_sound {f : DFun} (ho : AllD f.body.obs) {args : List DV} {g : PX} {v : DV} (h : dfun f args = (g, some v)) (hg : g.den) (hv : v ≠ .any) (hl : args.length = f.nparams) (hp : f.pure = true → v.flt = true)
    {Q : PV → List (List PV) → Prop} (hQ : ∀ H, Q v.enc H) : pfunSem f.er (DV.encL args) [] Q := by
  unfold dfun at h
  obtain ⟨hok, e, st, v0, h1, h2, h3, h4, h5⟩ := val_s h hv hg
  refine ⟨by rw [encL_len]; exact hl, fun _ => rfl, ?_⟩
  refine dev_s f.body ho (d := ⟨news args ++ dslots (f.nslots - f.nparams), dboxes f.nbox, []⟩) ⟨(EL.news args).append (slots_EL _), boxes_EB _, trivial⟩ hok h1 fun s' hs' => ?_
  obtain ⟨s2, e2⟩ := dresV_s hs' h3 h4
  rw [← h5] at e2
  have fin : (match presV s' f.res with | some (v, st) => if f.pure = true then v.flt = true ∧ Q v [] else Q v st.hp | none => False) := by
    rw [e2]
    simp only
    split
    · rename_i hpu
      exact ⟨flt_enc v (hp hpu), hQ _⟩
    · exact hQ _
  cases e with
  | normal => exact fin
  | ret => exact fin
  | exit i => exact absurd rfl (h2 i)
def TuX : List HT → Type
  | [] => Unit
  | [a] => a.D
  | a :: r => a.D × TuX r
def tuOf : (l : List HT) → List DV → Option (TuX l)
  | [], [] => some ()
  | [a], [v] => a.of v
  | a :: b :: r, v :: vs => (match a.of v, tuOf (b :: r) vs with
    | some x, some y => some (x, y)
    | _, _ => none)
  | _, _ => none
def tuDv : (l : List HT) → TuX l → List DV
  | [], _ => []
  | [a], x => [a.dv x]
  | a :: b :: r, x => a.dv x.1 :: tuDv (b :: r) x.2
inductive QT where
  | one (h : HT) | tup (l : List HT)
def QT.D : QT → Type
  | .one h => h.D
  | .tup l => TuX l
def QT.of : (q : QT) → DV → Option q.D
  | .one h, v => h.of v
  | .tup l, .tup vs => tuOf l vs
  | .tup _, _ => none
def QT.dv : (q : QT) → q.D → DV
  | .one h, x => h.dv x
  | .tup l, x => .tup (tuDv l x)
def QT.ofO (q : QT) : Option DV → Option q.D
  | some v => q.of v
  | none => none
def agDflt : (l : List (Ql × CT)) → AgX l
  | [] => ()
  | [a] => a.2.dflt
  | a :: b :: r => (a.2.dflt, agDflt (b :: r))
def HT.dflt : (h : HT) → h.D
  | .one _ t => t.dflt
  | .agg l => agDflt l
def tuDflt : (l : List HT) → TuX l
  | [] => ()
  | [a] => a.dflt
  | a :: b :: r => (a.dflt, tuDflt (b :: r))
def QT.dflt : (q : QT) → q.D
  | .one h => h.dflt
  | .tup l => tuDflt l
def HT.flt : HT → Bool
  | .one _ t => t.flat
  | .agg l => l.all fun a => a.2.flat
def QT.flt : QT → Bool
  | .one h => h.flt
  | .tup l => l.all HT.flt
theorem tu_of : ∀ {l : List HT} {vs : List DV} {x : TuX l}, tuOf l vs = some x → DV.encL (tuDv l x) = DV.encL vs
  | [], [], _, _ => rfl
  | [a], [v], x, h => by
    show [(a.dv x).enc] = [v.enc]
    rw [(ht_of (t := a) h).1]
  | a :: b :: r, v :: vs, x, h => by
    have h' : (match a.of v, tuOf (b :: r) vs with | some x, some y => some (x, y) | _, _ => none) = some x := h
    clear h
    cases h1 : a.of v with
    | none => rw [h1] at h'; cases h'
    | some p =>
      cases h2 : tuOf (b :: r) vs with
      | none => rw [h1, h2] at h'; cases h'
      | some q =>
        rw [h1, h2] at h'
        have h' := Option.some.inj h'
        subst h'
        show (a.dv p).enc :: DV.encL (tuDv (b :: r) q) = v.enc :: DV.encL vs
        rw [(ht_of h1).1, tu_of h2]
theorem qt_of {q : QT} {v : DV} {x : q.D} (h : q.of v = some x) : (q.dv x).enc = v.enc ∧ v ≠ .any := by
  cases q with
  | one t => exact ht_of (t := t) h
  | tup l =>
    cases v <;> try (cases h; done)
    rename_i cs
    refine ⟨?_, by simp⟩
    show PV.tup _ = PV.tup _
    rw [tu_of (l := l) h]
theorem tuDv_len : ∀ (l : List HT) (x : TuX l), (tuDv l x).length = l.length
  | [], _ => rfl
  | [_], _ => rfl
  | a :: b :: r, x => by
    show (tuDv (b :: r) x.2).length + 1 = (b :: r).length + 1
    rw [tuDv_len (b :: r) x.2]
theorem ct_flt {q : Ql} {t : CT} {v : DV} {x : t.D} (hf : t.flat = true) (h : t.ofQ q v = some x) : v.flt = true := by
  cases t <;> first | (cases hf; done) | skip
  all_goals (cases v <;> first | rfl | (cases h; done))
theorem ag_flt : ∀ {l : List (Ql × CT)} {vs : List DV} {x : AgX l}, l.all (fun a => a.2.flat) = true → agOf l vs = some x → DV.fltL vs = true
  | [], [], _, _, _ => rfl
  | [a], [v], x, hf, h => by
    simp only [List.all_cons, List.all_nil, Bool.and_true] at hf
    simp only [DV.fltL, ct_flt (q := a.1) hf h, Bool.and_self]
  | a :: b :: r, v :: vs, x, hf, h => by
    have h' : (match a.2.ofQ a.1 v, agOf (b :: r) vs with | some x, some y => some (x, y) | _, _ => none) = some x := h
    clear h
    rw [List.all_cons, Bool.and_eq_true] at hf
    cases h1 : a.2.ofQ a.1 v with
    | none => rw [h1] at h'; cases h'
    | some p =>
      cases h2 : agOf (b :: r) vs with
      | none => rw [h1, h2] at h'; cases h'
      | some q => simp only [DV.fltL, ct_flt hf.1 h1, ag_flt hf.2 h2, Bool.and_self]
theorem ht_flt {t : HT} {v : DV} {x : t.D} (hf : t.flt = true) (h : t.of v = some x) : v.flt = true := by
  cases t with
  | one q t => exact ct_flt (q := q) (t := t) hf h
  | agg l =>
    cases v <;> try (cases h; done)
    exact ag_flt (l := l) hf h
theorem tu_flt : ∀ {l : List HT} {vs : List DV} {x : TuX l}, l.all HT.flt = true → tuOf l vs = some x → DV.fltL vs = true
  | [], [], _, _, _ => rfl
  | [a], [v], x, hf, h => by
    simp only [List.all_cons, List.all_nil, Bool.and_true] at hf
    simp only [DV.fltL, ht_flt (t := a) hf h, Bool.and_self]
  | a :: b :: r, v :: vs, x, hf, h => by
    have h' : (match a.of v, tuOf (b :: r) vs with | some x, some y => some (x, y) | _, _ => none) = some x := h
    clear h
    rw [List.all_cons, Bool.and_eq_true] at hf
    cases h1 : a.of v with
    | none => rw [h1] at h'; cases h'
    | some p =>
      cases h2 : tuOf (b :: r) vs with
      | none => rw [h1, h2] at h'; cases h'
      | some q => simp only [DV.fltL, ht_flt hf.1 h1, tu_flt hf.2 h2, Bool.and_self]
theorem qt_flt {q : QT} {v : DV} {x : q.D} (hf : q.flt = true) (h : q.of v = some x) : v.flt = true := by
  cases q with
  | one t => exact ht_flt (t := t) hf h
  | tup l =>
    cases v <;> try (cases h; done)
    exact tu_flt (l := l) hf h
def DSemOf (hs : List HT) (q : QT) (ok : TuX hs → Prop) (v : TuX hs → q.D) : DSem := fun args => match tuOf hs args with
  | some x => some (.p (ok x), q.dv (v x))
  | none => none
noncomputable def DT.valQ (q : QT) (res : List ARes) : DT → PX × Option q.D
  | .leaf (.exit _) _ => (.ff, none)
  | .leaf _ st => (match dresV st res with
    | some v => if v.ok && !v.hasPtr then (match q.of v with
      | some y => (.tt, some y)
      | none => (.ff, none)) else (.ff, none)
    | none => (.ff, none))
  | .node c a b => (match a.valQ q res, b.valQ q res with
    | (g, none), (g', y) => (PX.if' c g g', y)
    | (g, x), (g', none) => (PX.if' c g g', x)
    | (g, some x), (g', some y) => (PX.if' c g g', some (bSel c x y)))
  | .chk g t => (match t.valQ q res with
    | (g', v) => (g.land g', v))
  | .bad => (.ff, none)
theorem valQ_none {q : QT} {res : List ARes} : ∀ {t : DT} {g : PX}, t.valQ q res = (g, none) → ¬ g.den
  | .leaf e st, g, h => by
    cases e <;> simp only [DT.valQ] at h <;> (repeat' split at h) <;> simp only [Prod.mk.injEq, reduceCtorEq, and_false, and_true] at h <;> subst h <;> exact id
  | .node c x y, g, h => by
    intro hg
    simp only [DT.valQ] at h
    cases h1 : x.valQ q res with
    | mk g1 v1 =>
      cases h2 : y.valQ q res with
      | mk g2 v2 =>
        rw [h1, h2] at h
        cases v1 with
        | none =>
          simp only [Prod.mk.injEq] at h
          obtain ⟨rfl, rfl⟩ := h
          have := (PX.if_den _ _ _).mp hg
          cases c with
          | true => exact valQ_none h1 (this.1 rfl)
          | false => exact valQ_none h2 (this.2 rfl)
        | some v1 => cases v2 <;> simp at h
  | .chk g0 t, g, h => by
    intro hg
    simp only [DT.valQ] at h
    cases h1 : t.valQ q res with
    | mk g1 v1 =>
      rw [h1] at h
      simp only [Prod.mk.injEq] at h
      obtain ⟨rfl, rfl⟩ := h
      exact valQ_none h1 ((PX.land_den _ _).mp hg).2
  | .bad, g, h => by
    simp only [DT.valQ, Prod.mk.injEq, and_true] at h
    subst h; exact id
theorem valQ_s {q : QT} {res : List ARes} : ∀ {t : DT} {g : PX} {y : q.D}, t.valQ q res = (g, some y) → g.den →
    t.ok.den ∧ ∃ e st v0, t.lf = some (e, st) ∧ (∀ i, e ≠ .exit i) ∧ dresV st res = some v0 ∧ v0.ok = true ∧ q.of v0 = some y
  | .leaf e st, g, y, h, hg => by
    have gen : (match dresV st res with | some v => if (v.ok && !v.hasPtr) = true then (match q.of v with | some y => (PX.tt, some y) | none => (PX.ff, none)) else (PX.ff, none) | none => (PX.ff, none)) = (g, some y) → ∃ v, dresV st res = some v ∧ v.ok = true ∧ q.of v = some y := fun h => by
      split at h
      · rename_i v hv
        split at h
        · rename_i hc
          simp only [Bool.and_eq_true] at hc
          split at h
          · rename_i y' hy
            simp only [Prod.mk.injEq, Option.some.injEq] at h
            obtain ⟨_, rfl⟩ := h
            exact ⟨v, hv, hc.1, hy⟩
          · simp at h
        · simp at h
      · simp at h
    cases e with
    | exit i => simp [DT.valQ] at h
    | normal => obtain ⟨v, h1, h2, h3⟩ := gen h; exact ⟨trivial, .normal, st, v, rfl, by simp, h1, h2, h3⟩
    | ret => obtain ⟨v, h1, h2, h3⟩ := gen h; exact ⟨trivial, .ret, st, v, rfl, by simp, h1, h2, h3⟩
  | .node c a b, g, y, h, hg => by
    simp only [DT.valQ] at h
    show (PX.if' c a.ok b.ok).den ∧ ∃ e st v0, (DT.node c a b).lf = some (e, st) ∧ (∀ i, e ≠ .exit i) ∧ dresV st res = some v0 ∧ v0.ok = true ∧ q.of v0 = some y
    rw [PX.if_den]
    cases h1 : a.valQ q res with
    | mk g1 v1 =>
      cases h2 : b.valQ q res with
      | mk g2 v2 =>
        rw [h1, h2] at h
        have hgg : g = PX.if' c g1 g2 := by
          cases v1 <;> cases v2 <;> simp only [Prod.mk.injEq] at h <;> exact h.1.symm
        subst hgg
        have hg := (PX.if_den _ _ _).mp hg
        cases c with
        | true =>
          have : v1 = some y := by
            cases v1 with
            | none => exact absurd (hg.1 rfl) (valQ_none h1)
            | some v1 => cases v2 <;> simp only [Prod.mk.injEq, bSel_t] at h <;> exact h.2
          subst this
          obtain ⟨k1, k2⟩ := valQ_s h1 (hg.1 rfl)
          exact ⟨⟨fun _ => k1, fun h => by cases h⟩, k2⟩
        | false =>
          have : v2 = some y := by
            cases v2 with
            | none => exact absurd (hg.2 rfl) (valQ_none h2)
            | some v2 => cases v1 <;> simp only [Prod.mk.injEq, bSel_f] at h <;> exact h.2
          subst this
          obtain ⟨k1, k2⟩ := valQ_s h2 (hg.2 rfl)
          exact ⟨⟨fun h => (by cases h), fun _ => k1⟩, k2⟩
  | .chk g0 t, g, y, h, hg => by
    simp only [DT.valQ] at h
    cases h1 : t.valQ q res with
    | mk g1 v1 =>
      rw [h1] at h
      simp only [Prod.mk.injEq] at h
      obtain ⟨rfl, rfl⟩ := h
      have hg := (PX.land_den _ _).mp hg
      obtain ⟨k1, k2⟩ := valQ_s h1 hg.2
      exact ⟨(PX.land_den _ _).mpr ⟨hg.1, k1⟩, k2⟩
  | .bad, g, y, h, hg => by simp [DT.valQ] at h
def QT.isB : QT → Bool
  | .one (.one _ .bool) => true
  | _ => false
noncomputable def fnR (f : DFun) (hs : List HT) (q : QT) (x : TuX hs) : PX × Option q.D :=
  if q.isB then ((dfun f (tuDv hs x)).1, q.ofO (dfun f (tuDv hs x)).2)
  else (dev f.body ⟨news (tuDv hs x) ++ dslots (f.nslots - f.nparams), dboxes f.nbox, []⟩).valQ q f.res
noncomputable def fnV (f : DFun) (hs : List HT) (q : QT) (x : TuX hs) : q.D := (fnR f hs q x).2.getD q.dflt
noncomputable def fnOk (f : DFun) (hs : List HT) (q : QT) (x : TuX hs) : Prop := (fnR f hs q x).1.den
noncomputable def fnChk (f : DFun) (hs : List HT) (q : QT) (x : TuX hs) : Bool := (fnR f hs q x).2.isSome
def fnSt (f : DFun) (hs : List HT) (q : QT) : Bool := hs.length == f.nparams && (!f.pure || q.flt)
theorem fn_sound {f : DFun} {hs : List HT} {q : QT} (ho : AllD f.body.obs) (hst : fnSt f hs q = true) (x : TuX hs) (hc : fnChk f hs q x = true) (hok : fnOk f hs q x)
    {Q : PV → List (List PV) → Prop} (hQ : ∀ H, Q (q.dv (fnV f hs q x)).enc H) : pfunSem f.er (DV.encL (tuDv hs x)) [] Q := by
  simp only [fnSt, Bool.and_eq_true, beq_iff_eq, Bool.or_eq_true, Bool.not_eq_true'] at hst
  unfold fnChk at hc
  unfold fnV at hQ
  unfold fnOk at hok
  unfold fnR at hc hQ hok
  by_cases hb : q.isB = true
  · rw [if_pos hb] at hc hQ hok
    cases hd : dfun f (tuDv hs x) with
    | mk g o =>
      rw [hd] at hc hQ hok
      cases o with
      | none => cases hc
      | some w =>
        obtain ⟨y, hy⟩ := Option.isSome_iff_exists.mp hc
        rw [hy] at hQ
        have hy : q.of w = some y := hy
        obtain ⟨h1, h2⟩ := qt_of hy
        refine dfun_sound ho hd hok h2 (by rw [tuDv_len]; exact hst.1) (fun hp => qt_flt (by simpa [hp] using hst.2) hy) fun H => ?_
        have := hQ H
        rw [Option.getD_some, h1] at this
        exact this
  · rw [if_neg hb] at hc hQ hok
    cases hd : (dev f.body ⟨news (tuDv hs x) ++ dslots (f.nslots - f.nparams), dboxes f.nbox, []⟩).valQ q f.res with
    | mk g o =>
      rw [hd] at hc hQ hok
      cases o with
      | none => cases hc
      | some y =>
        simp only [Option.getD_some] at hQ
        obtain ⟨k1, e, st, v0, k2, k3, k4, k5, k6⟩ := valQ_s hd hok
        obtain ⟨h1, h2⟩ := qt_of k6
        refine ⟨by rw [encL_len, tuDv_len]; exact hst.1, fun _ => rfl, ?_⟩
        refine dev_s f.body ho (d := ⟨news (tuDv hs x) ++ dslots (f.nslots - f.nparams), dboxes f.nbox, []⟩) ⟨(EL.news _).append (slots_EL _), boxes_EB _, trivial⟩ k1 k2 fun s' hs' => ?_
        obtain ⟨s2, e2⟩ := dresV_s hs' k4 k5
        rw [← h1] at e2
        have fin : (match presV s' f.res with | some (v, st) => if f.pure = true then v.flt = true ∧ Q v [] else Q v st.hp | none => False) := by
          rw [e2]
          simp only
          split
          · rename_i hpu
            exact ⟨by rw [h1]; exact flt_enc _ (qt_flt (by simpa [hpu] using hst.2) k6), hQ _⟩
          · exact hQ _
        cases e with
        | normal => exact fin
        | ret => exact fin
        | exit i => exact absurd rfl (k3 i)
theorem soundD_of {f : DFun} {hs : List HT} {q : QT} (ho : AllD f.body.obs) (hst : fnSt f hs q = true) (hc : ∀ x, fnChk f hs q x = true) {ok : TuX hs → Prop} {v : TuX hs → q.D} (hok : ∀ x, ok x → fnOk f hs q x) (hv : ∀ x, fnV f hs q x = v x) :
    SoundD (pfunSem f.er) (DSemOf hs q ok v) := by
  intro args g w Q h hg hQ
  unfold DSemOf at h
  cases hx : tuOf hs args with
  | none => rw [hx] at h; cases h
  | some x =>
    rw [hx] at h
    simp only [Option.some.injEq, Prod.mk.injEq] at h
    obtain ⟨rfl, rfl⟩ := h
    rw [← tu_of hx]
    exact fn_sound ho hst x (hc x) (hok x hg) fun H => by rw [hv]; exact hQ H
attribute [irreducible] fnR fnV fnOk fnChk fnSt
def outT : List (Ql × CT) → List (Ql × CT)
  | [] => []
  | (.frz, _) :: r => outT r
  | a :: r => a :: outT r
def spr : List (Ql × CT) → List DV → List DV
  | [], _ => []
  | (.frz, _) :: r, vs => .any :: spr r vs
  | _ :: r, v :: vs => v :: spr r vs
  | _ :: r, [] => .any :: spr r []
def pickO : List (Ql × CT) → List DC → Option (List DV)
  | [], [] => some []
  | (.frz, _) :: r, c :: l => if c.d then none else pickO r l
  | _ :: r, c :: l => (match pickO r l with
    | some vs => some (c.v :: vs)
    | none => none)
  | _, _ => none
def olds : List DV → List DC
  | [] => []
  | v :: r => ⟨false, v⟩ :: olds r
noncomputable def dresS (st : DS) : List ARes → Option (DV × DS)
  | [r] => dresOf st r
  | rs => (match dresAll st rs with
    | some x => some (.tup x.1, x.2)
    | none => none)
noncomputable def rP (q : QT) (cs : List (Ql × CT)) (res : List ARes) (st : DS) : Option (q.D × AgX (outT cs)) :=
  match dresS st res with
  | some (v, st') => if v.ok && !v.hasPtr then (match st'.hp with
    | [blk] => (match pickO cs blk with
      | some vs => (match q.of v, agOf (outT cs) vs with
        | some y, some b => some (y, b)
        | _, _ => none)
      | none => none)
    | _ => none) else none
  | none => none
noncomputable def rN (cs : List (Ql × CT)) (res : List ARes) (st : DS) : Option (AgX cs) :=
  match dresS st res with
  | some (v, st') => if v.isP0 then (match st'.hp with
    | [blk] => agOf cs (vals blk)
    | _ => none) else none
  | none => none
noncomputable def DT.valR {α : Type} (R : DS → Option α) : DT → PX × Option α
  | .leaf (.exit _) _ => (.ff, none)
  | .leaf _ st => (match R st with
    | some y => (.tt, some y)
    | none => (.ff, none))
  | .node c a b => (match a.valR R, b.valR R with
    | (g, none), (g', y) => (PX.if' c g g', y)
    | (g, x), (g', none) => (PX.if' c g g', x)
    | (g, some x), (g', some y) => (PX.if' c g g', some (bSel c x y)))
  | .chk g t => (match t.valR R with
    | (g', v) => (g.land g', v))
  | .bad => (.ff, none)
theorem valR_none {α : Type} {R : DS → Option α} : ∀ {t : DT} {g : PX}, t.valR R = (g, none) → ¬ g.den
  | .leaf e st, g, h => by
    cases e <;> simp only [DT.valR] at h <;> (repeat' split at h) <;> simp only [Prod.mk.injEq, reduceCtorEq, and_false, and_true] at h <;> subst h <;> exact id
  | .node c x y, g, h => by
    intro hg
    simp only [DT.valR] at h
    cases h1 : x.valR R with
    | mk g1 v1 =>
      cases h2 : y.valR R with
      | mk g2 v2 =>
        rw [h1, h2] at h
        cases v1 with
        | none =>
          simp only [Prod.mk.injEq] at h
          obtain ⟨rfl, rfl⟩ := h
          have := (PX.if_den _ _ _).mp hg
          cases c with
          | true => exact valR_none h1 (this.1 rfl)
          | false => exact valR_none h2 (this.2 rfl)
        | some v1 => cases v2 <;> simp at h
  | .chk g0 t, g, h => by
    intro hg
    simp only [DT.valR] at h
    cases h1 : t.valR R with
    | mk g1 v1 =>
      rw [h1] at h
      simp only [Prod.mk.injEq] at h
      obtain ⟨rfl, rfl⟩ := h
      exact valR_none h1 ((PX.land_den _ _).mp hg).2
  | .bad, g, h => by
    simp only [DT.valR, Prod.mk.injEq, and_true] at h
    subst h; exact id
theorem valR_s {α : Type} {R : DS → Option α} : ∀ {t : DT} {g : PX} {y : α}, t.valR R = (g, some y) → g.den →
    t.ok.den ∧ ∃ e st, t.lf = some (e, st) ∧ (∀ i, e ≠ .exit i) ∧ R st = some y
  | .leaf e st, g, y, h, hg => by
    have gen : (match R st with | some y => (PX.tt, some y) | none => (PX.ff, none)) = (g, some y) → R st = some y := fun h => by
      split at h
      · rename_i y' hy
        simp only [Prod.mk.injEq, Option.some.injEq] at h
        rw [hy, h.2]
      · simp at h
    cases e with
    | exit i => simp [DT.valR] at h
    | normal => exact ⟨trivial, .normal, st, rfl, by simp, gen h⟩
    | ret => exact ⟨trivial, .ret, st, rfl, by simp, gen h⟩
  | .node c a b, g, y, h, hg => by
    simp only [DT.valR] at h
    show (PX.if' c a.ok b.ok).den ∧ ∃ e st, (DT.node c a b).lf = some (e, st) ∧ (∀ i, e ≠ .exit i) ∧ R st = some y
    rw [PX.if_den]
    cases h1 : a.valR R with
    | mk g1 v1 =>
      cases h2 : b.valR R with
      | mk g2 v2 =>
        rw [h1, h2] at h
        have hgg : g = PX.if' c g1 g2 := by
          cases v1 <;> cases v2 <;> simp only [Prod.mk.injEq] at h <;> exact h.1.symm
        subst hgg
        have hg := (PX.if_den _ _ _).mp hg
        cases c with
        | true =>
          have : v1 = some y := by
            cases v1 with
            | none => exact absurd (hg.1 rfl) (valR_none h1)
            | some v1 => cases v2 <;> simp only [Prod.mk.injEq, bSel_t] at h <;> exact h.2
          subst this
          obtain ⟨k1, k2⟩ := valR_s h1 (hg.1 rfl)
          exact ⟨⟨fun _ => k1, fun h => by cases h⟩, k2⟩
        | false =>
          have : v2 = some y := by
            cases v2 with
            | none => exact absurd (hg.2 rfl) (valR_none h2)
            | some v2 => cases v1 <;> simp only [Prod.mk.injEq, bSel_f] at h <;> exact h.2
          subst this
          obtain ⟨k1, k2⟩ := valR_s h2 (hg.2 rfl)
          exact ⟨⟨fun h => (by cases h), fun _ => k1⟩, k2⟩
  | .chk g0 t, g, y, h, hg => by
    simp only [DT.valR] at h
    cases h1 : t.valR R with
    | mk g1 v1 =>
      rw [h1] at h
      simp only [Prod.mk.injEq] at h
      obtain ⟨rfl, rfl⟩ := h
      have hg := (PX.land_den _ _).mp hg
      obtain ⟨k1, k2⟩ := valR_s h1 hg.2
      exact ⟨(PX.land_den _ _).mpr ⟨hg.1, k1⟩, k2⟩
  | .bad, g, y, h, hg => by simp [DT.valR] at h
theorem all_lf {p : DS → Prop} : ∀ {t : DT} {e : AExit} {st : DS}, t.All p → t.lf = some (e, st) → p st
  | .leaf _ _, _, _, h, hl => by
    simp only [DT.lf, Option.some.injEq, Prod.mk.injEq] at hl
    obtain ⟨_, rfl⟩ := hl; exact h
  | .node c a b, _, _, h, hl => by
    simp only [DT.lf] at hl
    cases c with
    | true => exact all_lf h.1 hl
    | false => exact all_lf h.2 hl
  | .chk _ t, _, _, h, hl => all_lf (t := t) h hl
  | .bad, _, _, _, hl => by cases hl
theorem dresOf_chg {st st' : DS} {r : ARes} {v : DV} (h : dresOf st r = some (v, st')) : ChgS st st' := by
  cases r with
  | tmp t =>
    simp only [dresOf] at h
    split at h
    · simp only [Option.some.injEq] at h
      have := ChgS.mvOut (.t t) st
      simp only [dmvOut, h] at this
      exact this
    · cases h
  | cell t n =>
    simp only [dresOf] at h
    split at h
    · split at h
      · simp only [Option.map_eq_some_iff] at h
        obtain ⟨⟨g, r⟩, h1, h2⟩ := h
        simp only at h2
        subst h2
        exact dloadB_chg h1
      · cases h
    · split at h
      · simp only [Option.map_eq_some_iff] at h
        obtain ⟨⟨g, r⟩, h1, h2⟩ := h
        simp only at h2
        subst h2
        exact dloadH_chg h1
      · cases h
    · cases h
theorem dresAll_chg : ∀ {rs : List ARes} {st st' : DS} {vs : List DV}, dresAll st rs = some (vs, st') → ChgS st st'
  | [], st, st', vs, h => by
    simp only [dresAll, Option.some.injEq, Prod.mk.injEq] at h
    rw [h.2]; exact ChgS.refl _
  | r :: rs, st, st', vs, h => by
    simp only [dresAll] at h
    split at h
    · rename_i v st1 h1
      split at h
      · rename_i vs1 st2 h2
        simp only [Option.some.injEq, Prod.mk.injEq] at h
        obtain ⟨_, rfl⟩ := h
        exact (dresOf_chg h1).trans (dresAll_chg h2)
      · cases h
    · cases h
theorem dresS_s {res : List ARes} {st st' : DS} {s : PS} {v : DV} (hs : ES st s) (h : dresS st res = some (v, st')) (hv : v.ok = true) : (∃ s', presV s res = some (v.enc, s') ∧ ES st' s') ∧ ChgS st st' := by
  have gen : ∀ {res : List ARes}, (match dresAll st res with | some x => some (DV.tup x.1, x.2) | none => none) = some (v, st') → (∃ s', (presAll s res).map (fun (vs, st) => (PV.tup vs, st)) = some (v.enc, s') ∧ ES st' s') ∧ ChgS st st' := fun {res} h => by
    split at h
    · rename_i x hx
      obtain ⟨vs, st1⟩ := x
      simp only [Option.some.injEq, Prod.mk.injEq] at h
      obtain ⟨rfl, rfl⟩ := h
      obtain ⟨s', e1, e2⟩ := dresAll_s hs hx hv
      exact ⟨⟨s', by rw [e1]; rfl, e2⟩, dresAll_chg hx⟩
    · cases h
  cases res with
  | nil => exact gen (res := []) h
  | cons r rs =>
    cases rs with
    | nil => exact ⟨dresOf_s hs h hv, dresOf_chg h⟩
    | cons r2 rs => exact gen (res := r :: r2 :: rs) h
theorem agOf_known : ∀ {l : List (Ql × CT)} {vs : List DV} {x : AgX l}, agOf l vs = some x → (∀ v ∈ vs, v ≠ .any) ∧ ∀ v ∈ agDv l x, v ≠ .any
  | [], [], _, _ => ⟨by simp, by simp [agDv]⟩
  | [a], [v], x, h => by
    obtain ⟨h1, h2⟩ := ct_ofQ (q := a.1) (t := a.2) h
    refine ⟨by simpa using h2, fun w hw => ?_⟩
    have hw : w ∈ [a.2.dv a.1 x] := hw
    rw [List.mem_singleton] at hw
    subst hw
    exact dv_known _ _ _
  | a :: b :: r, v :: vs, x, h => by
    have h' : (match a.2.ofQ a.1 v, agOf (b :: r) vs with | some x, some y => some (x, y) | _, _ => none) = some x := h
    clear h
    cases h1 : a.2.ofQ a.1 v with
    | none => rw [h1] at h'; cases h'
    | some p =>
      cases h2 : agOf (b :: r) vs with
      | none => rw [h1, h2] at h'; cases h'
      | some q =>
        rw [h1, h2] at h'
        have h' := Option.some.inj h'
        subst h'
        obtain ⟨k1, k2⟩ := agOf_known h2
        refine ⟨fun w hw => ?_, fun w hw => ?_⟩
        · rcases List.mem_cons.mp hw with rfl | hw
          · exact (ct_ofQ h1).2
          · exact k1 w hw
        · have hw : w ∈ a.2.dv a.1 p :: agDv (b :: r) q := hw
          rcases List.mem_cons.mp hw with rfl | hw
          · exact dv_known _ _ _
          · exact k2 w hw
  where dv_known (q : Ql) (t : CT) (x : t.D) : t.dv q x ≠ .any := by cases t <;> simp [CT.dv]
theorem agDv_known : ∀ (l : List (Ql × CT)) (x : AgX l), (∀ v ∈ agDv l x, v ≠ .any) ∧ (agDv l x).length = l.length
  | [], _ => ⟨by simp [agDv], rfl⟩
  | [a], x => ⟨fun w hw => by
      have hw : w ∈ [a.2.dv a.1 x] := hw
      rw [List.mem_singleton] at hw
      subst hw
      exact agOf_known.dv_known _ _ _, rfl⟩
  | a :: b :: r, x => by
    obtain ⟨h1, h2⟩ := agDv_known (b :: r) x.2
    refine ⟨fun w hw => ?_, ?_⟩
    · have hw : w ∈ a.2.dv a.1 x.1 :: agDv (b :: r) x.2 := hw
      rcases List.mem_cons.mp hw with rfl | hw
      · exact agOf_known.dv_known _ _ _
      · exact h1 w hw
    · show (agDv (b :: r) x.2).length + 1 = (b :: r).length + 1
      rw [h2]
theorem blk_back : ∀ (cs : List (Ql × CT)) {blk : List DV} {blk' : List DC} {p : List PV} {vs w : List DV}, EL blk' p → Chg (olds blk) blk' → pickO cs blk' = some vs → DV.encL w = DV.encL vs → (∀ v ∈ vs, v ≠ .any) → (∀ v ∈ w, v ≠ .any) →
    blk.length = cs.length → (∀ v ∈ blk, v ≠ .any) → p = DV.encL (mixV blk (spr cs w))
  | [], blk, blk', p, vs, w, he, hc, hp, hw, hv, hvw, hl, hb => by
    have : blk = [] := List.eq_nil_of_length_eq_zero hl
    subst this
    cases blk' with
    | nil => cases p with
      | nil => rfl
      | cons => exact he.elim
    | cons => cases hp
  | (q, t) :: r, blk, blk', p, vs, w, he, hc, hp, hw, hv, hvw, hl, hb => by
    cases blk with
    | nil => cases hl
    | cons v0 blk =>
    cases blk' with
    | nil => cases q <;> cases hp
    | cons c l =>
    cases p with
    | nil => exact he.elim
    | cons x p =>
    have hl' : blk.length = r.length := by simpa using hl
    have hb' : ∀ v ∈ blk, v ≠ .any := fun v hv => hb v (List.mem_cons_of_mem _ hv)
    by_cases hq : q = .frz
    · subst hq
      have hp : (if c.d then none else pickO r l) = some vs := hp
      split at hp
      · cases hp
      · rename_i hd
        have hc1 : c = ⟨false, v0⟩ := hc.1.resolve_left hd
        have hx : x = v0.enc := by
          rcases he.1 with h | h
          · rw [hc1] at h; exact absurd h (hb v0 (List.mem_cons_self ..))
          · rw [h, hc1]
        show x :: p = v0.enc :: DV.encL (mixV blk (spr r w))
        rw [hx, blk_back r he.2 hc.2 hp hw hv hvw hl' hb']
    · have hp' : (match pickO r l with | some vs => some (c.v :: vs) | none => none) = some vs := by
        cases q <;> first | exact absurd rfl hq | exact hp
      cases hpr : pickO r l with
      | none => rw [hpr] at hp'; cases hp'
      | some vs1 =>
        rw [hpr] at hp'
        have hp' := Option.some.inj hp'
        subst hp'
        cases w with
        | nil => cases hw
        | cons w0 w =>
        simp only [DV.encL, List.cons.injEq] at hw
        have hx : x = w0.enc := by
          rcases he.1 with h | h
          · exact absurd h (hv c.v (List.mem_cons_self ..))
          · rw [h, hw.1]
        have hw0 : w0.isAny = false := by
          have := hvw w0 (List.mem_cons_self ..)
          cases w0 <;> first | rfl | exact absurd rfl this
        have e : spr ((q, t) :: r) (w0 :: w) = w0 :: spr r w := by cases q <;> first | exact absurd rfl hq | rfl
        rw [e]
        simp only [mixV, hw0, Bool.false_eq_true, if_false, DV.encL]
        rw [hx, blk_back r he.2 hc.2 hpr hw.2 (fun v h => hv v (List.mem_cons_of_mem _ h)) (fun v h => hvw v (List.mem_cons_of_mem _ h)) hl' hb']
noncomputable def fnP (f : DFun) (hs : List HT) (cs : List (Ql × CT)) (q : QT) (x : TuX (.agg cs :: hs)) : PX × Option (q.D × AgX (outT cs)) :=
  match tuDv (.agg cs :: hs) x with
  | .agg blk :: r => (dev f.body ⟨news (.ptr 0 0 :: r) ++ dslots (f.nslots - f.nparams), dboxes f.nbox, [olds blk]⟩).valR (rP q cs f.res)
  | _ => (.ff, none)
noncomputable def fnPV (f : DFun) (hs : List HT) (cs : List (Ql × CT)) (q : QT) (x : TuX (.agg cs :: hs)) : q.D × AgX (outT cs) := (fnP f hs cs q x).2.getD (q.dflt, agDflt (outT cs))
noncomputable def fnPOk (f : DFun) (hs : List HT) (cs : List (Ql × CT)) (q : QT) (x : TuX (.agg cs :: hs)) : Prop := (fnP f hs cs q x).1.den
noncomputable def fnPChk (f : DFun) (hs : List HT) (cs : List (Ql × CT)) (q : QT) (x : TuX (.agg cs :: hs)) : Bool := (fnP f hs cs q x).2.isSome
def fnPSt (f : DFun) (hs : List HT) (cs : List (Ql × CT)) : Bool := hs.length + 1 == f.nparams && !f.pure && Nat.blt 0 cs.length
def DSemOfP (hs : List HT) (cs : List (Ql × CT)) (q : QT) (ok : TuX (.agg cs :: hs) → Prop) (v : TuX (.agg cs :: hs) → q.D × AgX (outT cs)) : DSemP := fun args b => match args, b with
  | a :: r, [blk] => if a.isP0 then (match tuOf (.agg cs :: hs) (.agg blk :: r) with
    | some x => some (.p (ok x), q.dv (v x).1, [spr cs (agDv (outT cs) (v x).2)])
    | none => none) else none
  | _, _ => none
theorem tuDv_cons (cs : List (Ql × CT)) (hs : List HT) (x : TuX (.agg cs :: hs)) : ∃ r b, tuDv (.agg cs :: hs) x = .agg (agDv cs b) :: r := by
  cases hs with
  | nil => exact ⟨[], x, rfl⟩
  | cons a r => exact ⟨tuDv (a :: r) x.2, x.1, rfl⟩
theorem olds_EL : ∀ (l : List DV), EL (olds l) (DV.encL l)
  | [] => trivial
  | _ :: r => ⟨.inr rfl, olds_EL r⟩
theorem soundDP_of {f : DFun} {hs : List HT} {cs : List (Ql × CT)} {q : QT} (ho : AllD f.body.obs) (hst : fnPSt f hs cs = true) (hc : ∀ x, fnPChk f hs cs q x = true) {ok : TuX (.agg cs :: hs) → Prop} {v : TuX (.agg cs :: hs) → q.D × AgX (outT cs)} (hok : ∀ x, ok x → fnPOk f hs cs q x) (hv : ∀ x, fnPV f hs cs q x = v x) :
    SoundDP (pfunSem f.er) (DSemOfP hs cs q ok v) := by
  intro args b g w H Q h hg hQ
  simp only [fnPSt, Bool.and_eq_true, beq_iff_eq, Bool.not_eq_true'] at hst
  unfold DSemOfP at h
  split at h
  · rename_i a r blk
    split at h
    · rename_i ha
      have ha : a = .ptr 0 0 := by unfold DV.isP0 at ha; split at ha <;> first | rfl | cases ha
      subst ha
      cases hx : tuOf (.agg cs :: hs) (.agg blk :: r) with
      | none => rw [hx] at h; cases h
      | some x =>
        rw [hx] at h
        simp only [Option.some.injEq, Prod.mk.injEq] at h
        obtain ⟨rfl, rfl, rfl⟩ := h
        have he := tu_of hx
        obtain ⟨r', b, hd⟩ := tuDv_cons cs hs x
        rw [hd] at he
        simp only [DV.encL, DV.enc, List.cons.injEq, PV.agg.injEq] at he
        have hlr : r'.length = hs.length := by
          have := tuDv_len (.agg cs :: hs) x
          rw [hd] at this
          simpa using this
        have hc := hc x
        have hok := hok x hg
        unfold fnPChk at hc
        unfold fnPOk at hok
        have hvx := hv x
        unfold fnPV at hvx
        unfold fnP at hc hok hvx
        rw [hd] at hc hok hvx
        simp only at hc hok hvx
        cases hdd : (dev f.body ⟨news (.ptr 0 0 :: r') ++ dslots (f.nslots - f.nparams), dboxes f.nbox, [olds (agDv cs b)]⟩).valR (rP q cs f.res) with
        | mk g o =>
          rw [hdd] at hc hok hvx
          cases o with
          | none => cases hc
          | some y =>
            simp only [Option.getD_some] at hvx
            obtain ⟨k1, e, st, k2, k3, k4⟩ := valR_s hdd hok
            have hchg : ChgS _ st := all_lf (dev_all f.body _) k2
            show pfunSem f.er (PV.ptr 0 0 :: DV.encL r) [DV.encL blk] Q
            rw [← he.1, ← he.2]
            refine ⟨by simp only [List.length_cons, encL_len, hlr]; exact hst.1.1, fun hp => absurd hp (by simp [DFun.er, hst.1.2]), ?_⟩
            refine dev_s f.body ho (d := ⟨news (.ptr 0 0 :: r') ++ dslots (f.nslots - f.nparams), dboxes f.nbox, [olds (agDv cs b)]⟩) (s := ⟨DV.encL (.ptr 0 0 :: r') ++ preps (f.nslots - f.nparams), prepb f.nbox, [DV.encL (agDv cs b)]⟩) ⟨(EL.news _).append (slots_EL _), boxes_EB _, .inr (olds_EL _), trivial⟩ k1 k2 fun s' hs' => ?_
            unfold rP at k4
            split at k4
            · rename_i v0 st' hr
              split at k4
              · rename_i hv0
                simp only [Bool.and_eq_true, Bool.not_eq_true'] at hv0
                split at k4
                · rename_i blk' hblk
                  split at k4
                  · rename_i vs hvs
                    split at k4
                    · rename_i y0 b0 hy0 hb0
                      simp only [Option.some.injEq] at k4
                      subst k4
                      obtain ⟨⟨s2, e2, e3⟩, hch2⟩ := dresS_s hs' hr hv0.1
                      have hch := (hchg.trans hch2).hp
                      have e4 := e3.hp
                      rw [hblk] at hch e4
                      cases hp2 : s2.hp with
                      | nil => rw [hp2] at e4; exact e4.elim
                      | cons p l =>
                        rw [hp2] at e4
                        have hl0 : l = [] := by cases l <;> first | rfl | exact e4.2.elim
                        subst hl0
                        have hne : 0 < blk'.length := by
                          cases blk' with
                          | nil => cases cs with
                            | nil => exact absurd hst.2 (by decide)
                            | cons a cs => obtain ⟨q0, t0⟩ := a; cases q0 <;> cases hvs
                          | cons => simp
                        have hEL := e4.1.to hne
                        obtain ⟨kn1, kn2⟩ := agOf_known hb0
                        obtain ⟨kb1, kb2⟩ := agDv_known cs b
                        have hpb := blk_back cs hEL hch.1 hvs (ag_of hb0) kn1 kn2 kb2 kb1
                        obtain ⟨h1, _⟩ := qt_of hy0
                        have hQ' : Q (q.dv y0).enc (encLB (mixVB [blk] [spr cs (agDv (outT cs) b0)])) := by
                          have := hQ
                          rw [← hvx] at this; exact this
                        have hmix : DV.encL (mixV (agDv cs b) (spr cs (agDv (outT cs) b0))) = DV.encL (mixV blk (spr cs (agDv (outT cs) b0))) := by
                          have : ∀ (a c l : List DV), DV.encL a = DV.encL c → DV.encL (mixV a l) = DV.encL (mixV c l) := by
                            intro a
                            induction a with
                            | nil => intro c l h; cases c with
                              | nil => rfl
                              | cons => cases h
                            | cons x a ih =>
                              intro c l h
                              cases c with
                              | nil => cases h
                              | cons z c =>
                                simp only [DV.encL, List.cons.injEq] at h
                                cases l with
                                | nil => simp only [mixV, DV.encL, h.1, h.2]
                                | cons w l =>
                                  simp only [mixV, DV.encL, ih c l h.2]
                                  by_cases hw : w.isAny = true
                                  · rw [if_pos hw, if_pos hw, h.1]
                                  · rw [if_neg hw, if_neg hw]
                          exact this _ _ _ he.1
                        have fin : (match presV s' f.res with | some (v, st) => if f.pure = true then v.flt = true ∧ Q v [] else Q v st.hp | none => False) := by
                          rw [e2]
                          simp only [hst.1.2, Bool.false_eq_true, if_false, hp2]
                          rw [← h1, hpb, hmix]
                          exact hQ'
                        cases e with
                        | normal => exact fin
                        | ret => exact fin
                        | exit i => exact absurd rfl (k3 i)
                    · cases k4
                  · cases k4
                · cases k4
              · cases k4
            · cases k4
    · cases h
  · cases h
noncomputable def fnN (f : DFun) (hs : List HT) (cs : List (Ql × CT)) (x : TuX hs) : PX × Option (AgX cs) :=
  (dev f.body ⟨news (tuDv hs x) ++ dslots (f.nslots - f.nparams), dboxes f.nbox, []⟩).valR (rN cs f.res)
noncomputable def fnNV (f : DFun) (hs : List HT) (cs : List (Ql × CT)) (x : TuX hs) : AgX cs := (fnN f hs cs x).2.getD (agDflt cs)
noncomputable def fnNOk (f : DFun) (hs : List HT) (cs : List (Ql × CT)) (x : TuX hs) : Prop := (fnN f hs cs x).1.den
noncomputable def fnNChk (f : DFun) (hs : List HT) (cs : List (Ql × CT)) (x : TuX hs) : Bool := (fnN f hs cs x).2.isSome
def fnNSt (f : DFun) (hs : List HT) (cs : List (Ql × CT)) : Bool := hs.length == f.nparams && !f.pure && Nat.blt 0 cs.length
def DSemOfN (hs : List HT) (cs : List (Ql × CT)) (ok : TuX hs → Prop) (v : TuX hs → AgX cs) : DSemP := fun args b => match b with
  | [] => (match tuOf hs args with
    | some x => some (.p (ok x), .ptr 0 0, [agDv cs (v x)])
    | none => none)
  | _ => none
theorem agOf_len : ∀ {l : List (Ql × CT)} {vs : List DV} {x : AgX l}, agOf l vs = some x → vs.length = l.length
  | [], [], _, _ => rfl
  | [a], [v], x, h => rfl
  | a :: b :: r, v :: vs, x, h => by
    have h' : (match a.2.ofQ a.1 v, agOf (b :: r) vs with | some x, some y => some (x, y) | _, _ => none) = some x := h
    cases h1 : a.2.ofQ a.1 v with
    | none => rw [h1] at h'; cases h'
    | some p =>
      cases h2 : agOf (b :: r) vs with
      | none => rw [h1, h2] at h'; cases h'
      | some q =>
        have := agOf_len h2
        simp only [List.length_cons] at this ⊢
        omega
theorem soundDN_of {f : DFun} {hs : List HT} {cs : List (Ql × CT)} (ho : AllD f.body.obs) (hst : fnNSt f hs cs = true) (hc : ∀ x, fnNChk f hs cs x = true) {ok : TuX hs → Prop} {v : TuX hs → AgX cs} (hok : ∀ x, ok x → fnNOk f hs cs x) (hv : ∀ x, fnNV f hs cs x = v x) :
    SoundDP (pfunSem f.er) (DSemOfN hs cs ok v) := by
  intro args b g w H Q h hg hQ
  simp only [fnNSt, Bool.and_eq_true, beq_iff_eq, Bool.not_eq_true'] at hst
  unfold DSemOfN at h
  split at h
  · cases hx : tuOf hs args with
    | none => rw [hx] at h; cases h
    | some x =>
      rw [hx] at h
      simp only [Option.some.injEq, Prod.mk.injEq] at h
      obtain ⟨rfl, rfl, rfl⟩ := h
      have he := tu_of hx
      have hc := hc x
      have hok := hok x hg
      have hvx := hv x
      unfold fnNChk at hc
      unfold fnNOk at hok
      unfold fnNV at hvx
      unfold fnN at hc hok hvx
      cases hdd : (dev f.body ⟨news (tuDv hs x) ++ dslots (f.nslots - f.nparams), dboxes f.nbox, []⟩).valR (rN cs f.res) with
      | mk g o =>
        rw [hdd] at hc hok hvx
        cases o with
        | none => cases hc
        | some y =>
          simp only [Option.getD_some] at hvx
          obtain ⟨k1, e, st, k2, k3, k4⟩ := valR_s hdd hok
          show pfunSem f.er (DV.encL args) [] Q
          rw [← he]
          refine ⟨by rw [encL_len, tuDv_len]; exact hst.1.1, fun hp => absurd hp (by simp [DFun.er, hst.1.2]), ?_⟩
          refine dev_s f.body ho (d := ⟨news (tuDv hs x) ++ dslots (f.nslots - f.nparams), dboxes f.nbox, []⟩) ⟨(EL.news _).append (slots_EL _), boxes_EB _, trivial⟩ k1 k2 fun s' hs' => ?_
          unfold rN at k4
          split at k4
          · rename_i v0 st' hr
            split at k4
            · rename_i hv0
              have hv0 : v0 = .ptr 0 0 := by unfold DV.isP0 at hv0; split at hv0 <;> first | rfl | cases hv0
              subst hv0
              split at k4
              · rename_i blk' hblk
                obtain ⟨⟨s2, e2, e3⟩, _⟩ := dresS_s hs' hr rfl
                have e4 := e3.hp
                rw [hblk] at e4
                cases hp2 : s2.hp with
                | nil => rw [hp2] at e4; exact e4.elim
                | cons p l =>
                  rw [hp2] at e4
                  have hl0 : l = [] := by cases l <;> first | rfl | exact e4.2.elim
                  subst hl0
                  have hne : 0 < blk'.length := by
                    have := agOf_len k4
                    rw [vals_len] at this
                    have := Nat.le_of_ble_eq_true hst.2
                    omega
                  have hEL := e4.1.to hne
                  obtain ⟨kn1, _⟩ := agOf_known k4
                  have hpe : p = DV.encL (vals blk') := by
                    have : ∀ {a : List DC} {b : List PV}, EL a b → (∀ v ∈ vals a, v ≠ .any) → b = DV.encL (vals a) := by
                      intro a
                      induction a with
                      | nil => intro b h _; cases b <;> first | rfl | exact h.elim
                      | cons c a ih =>
                        intro b h hk
                        cases b with
                        | nil => exact h.elim
                        | cons x b =>
                          simp only [vals, DV.encL]
                          rcases h.1 with h1 | h1
                          · exact absurd h1 (hk _ (List.mem_cons_self ..))
                          · rw [h1, ih h.2 fun v hv => hk v (List.mem_cons_of_mem _ hv)]
                    exact this hEL kn1
                  have hQ' : Q (.ptr 0 0) [DV.encL (agDv cs y)] := by
                    have := hQ
                    rw [← hvx] at this; exact this
                  have fin : (match presV s' f.res with | some (v, st) => if f.pure = true then v.flt = true ∧ Q v [] else Q v st.hp | none => False) := by
                    rw [e2]
                    simp only [hst.1.2, Bool.false_eq_true, if_false, hp2]
                    rw [hpe, ← ag_of k4]
                    exact hQ'
                  cases e with
                  | normal => exact fin
                  | ret => exact fin
                  | exit i => exact absurd rfl (k3 i)
              · cases k4
            · cases k4
          · cases k4
  · cases h
attribute [irreducible] fnP fnPV fnPOk fnPChk fnPSt fnN fnNV fnNOk fnNChk fnNSt
open Go.RowKit Go.WideShapes Go.ChangeShapes
inductive Ty where
  | int (k : IntKind)
  | bool
  | str
  | sl (t : Ty)
  | unit
  | pair (a b : Ty)
def Ty.w : Ty → Nat
  | .int _ | .bool | .str | .sl _ => 1
  | .unit => 0
  | .pair a b => a.w + b.w
def tyFs (P : Program) (f : TypeId → Option Ty) : List Field → Nat → Option Ty
  | [], _ => some .unit
  | g :: r, off =>
    match f g.type with
    | some a => if g.offset = off ∧ a.w = P.cellsOf g.type then (match tyFs P f r (off + a.w) with | some b => some (.pair a b) | none => none) else none
    | none => none
def tyOf (P : Program) : Nat → TypeId → Option Ty
  | 0, _ => none
  | d + 1, t =>
    match P.underlying t with
    | some (.int k) => some (.int k)
    | some .bool => some .bool
    | some .string => some .str
    | some (.slice e) => (match tyOf P d e with | some te => if te.w = P.cellsOf e ∧ 0 < te.w then some (.sl te) else none | none => none)
    | some (.struct fs) => (match tyFs P (tyOf P d) fs.toList 0 with | some ty => if ty.w = P.cellsOf t then some ty else none | none => none)
    | _ => none
def Sh (σ : Heap) : Ty → List V → Prop
  | .int k, cs => ∃ n, cs = [.int k n] ∧ (Lit.int k n).wf = true
  | .bool, cs => ∃ b, cs = [.bool b]
  | .str, cs => ∃ s, cs = [.str s] ∧ s.length ≤ maxLen
  | .sl t, cs => cs = [.nils] ∨ ∃ (l n : Nat) (bs : List V), cs = [.slice l 0 n] ∧ σ[l]? = some ⟨.ro, t.w, bs⟩ ∧ bs.length = n * t.w ∧ n ≤ maxLen ∧ ∀ i, i < n → Sh σ t ((bs.drop (i * t.w)).take t.w)
  | .unit, cs => cs = []
  | .pair a b, cs => ∃ xs ys, cs = xs ++ ys ∧ Sh σ a xs ∧ Sh σ b ys
theorem Sh.len {σ : Heap} : ∀ {ty : Ty} {cs : List V}, Sh σ ty cs → cs.length = ty.w
  | .int _, _, ⟨_, h, _⟩ => by rw [h]; rfl
  | .bool, _, ⟨_, h⟩ => by rw [h]; rfl
  | .str, _, ⟨_, h, _⟩ => by rw [h]; rfl
  | .sl _, _, h => by rcases h with h | ⟨_, _, _, h, _⟩ <;> rw [h] <;> rfl
  | .unit, _, h => by rw [h]; rfl
  | .pair a b, _, ⟨xs, ys, h, h1, h2⟩ => by rw [h, List.length_append, h1.len, h2.len]; rfl
theorem Sh.mono {σ e : Heap} : ∀ {ty : Ty} {cs : List V}, Sh σ ty cs → Sh (σ ++ e) ty cs
  | .int _, _, h => h
  | .bool, _, h => h
  | .str, _, h => h
  | .sl _, _, h => by
    rcases h with h | ⟨l, n, bs, h, h1, h2, h3, h4⟩
    · exact .inl h
    · exact .inr ⟨l, n, bs, h, by rw [List.getElem?_append_left (get_len h1)]; exact h1, h2, h3, fun i hi => (h4 i hi).mono⟩
  | .unit, _, h => h
  | .pair _ _, _, ⟨xs, ys, h, h1, h2⟩ => ⟨xs, ys, h, h1.mono, h2.mono⟩
def AllRo (σ : Heap) : Prop := ∀ (l : Nat) (b : Blk), σ[l]? = some b → b.k = .ro
def Built (ι : Inj) (σ : Heap) (W : World) (ty : Ty) (cs : List Value) : Prop :=
  ∃ ι' e vs, HRel ι' (σ ++ e) W ∧ Keeps ι σ ι' (σ ++ e) ∧ AllRo (σ ++ e) ∧ Sh (σ ++ e) ty vs ∧ vs.length = cs.length ∧ ∀ (i : Nat) v x, vs[i]? = some v → cs[i]? = some x → v.cell = true ∧ ∀ β, Rel ι' (σ ++ e) β v x
theorem HRel.lay {ι : Inj} {σ : Heap} {W : World} (h : HRel ι σ W) (hro : AllRo σ) {b off c : Nat} {wd : Nat} {bs : List V} (hb : b < W.heap.size) (hc : ∀ (i : Nat) v, bs[i]? = some v → v.cell = true ∧ ∃ x, W.cell? ⟨b, off + i, none⟩ = some x ∧ ∀ β, Rel ι σ β v x) :
    HRel (upd ι σ.length ⟨b, off, c⟩) (σ ++ [⟨.ro, wd, bs⟩]) W ∧ AllRo (σ ++ [⟨.ro, wd, bs⟩]) := by
  have K := keeps_push ι σ ⟨b, off, c⟩ ⟨.ro, wd, bs⟩
  have hall : AllRo (σ ++ [⟨.ro, wd, bs⟩]) := by
    intro l blk hl
    rcases push_get hl with ⟨_, hl⟩ | ⟨_, rfl⟩
    · exact hro l blk hl
    · rfl
  refine ⟨⟨fun l blk hl hk i v hv => ?_, fun l blk hl hk => ?_, fun l l' blk blk' hne hl hl' hk hk' => ?_, fun l blk hl hk => ?_⟩, hall⟩
  · rcases push_get hl with ⟨hlt, hl⟩ | ⟨rfl, rfl⟩
    · rw [upd_other _ _ _ _ (by omega)]
      obtain ⟨a, x, b', c⟩ := h.cells l blk hl hk i v hv
      exact ⟨a, x, b', fun β => (c β).cellMono K a⟩
    · rw [upd_same]
      obtain ⟨a, x, b', c⟩ := hc i v hv
      exact ⟨a, x, b', fun β => (c β).cellMono K a⟩
  · have := hall l blk hl; rw [hk] at this; cases this
  · have := hall l blk hl; rw [hk] at this; cases this
  · rcases push_get hl with ⟨hlt, hl⟩ | ⟨rfl, rfl⟩
    · rw [upd_other _ _ _ _ (by omega)]; exact h.there l blk hl hk
    · rw [upd_same]; exact hb
theorem cell_block_lt {w : World} {a : Addr} {v : Value} (h : w.cell? a = some v) : a.block < w.heap.size := by
  unfold World.cell? at h
  rcases Nat.lt_or_ge a.block w.heap.size with h1 | h1
  · exact h1
  · rw [Array.getElem?_eq_none h1] at h; cases h
theorem get_lt {α : Type} {l : List α} {i : Nat} {v : α} (h : l[i]? = some v) : i < l.length := by
  rcases Nat.lt_or_ge i l.length with h1 | h1
  · exact h1
  · rw [List.getElem?_eq_none h1] at h; cases h
section
variable {H : Type} {enc : TypeId × Value → H} {P : Program} {W : World}
theorem built_fields (d : Nat) (ih : ∀ (t : TypeId) (ty : Ty), tyOf P d t = some ty → ∀ (fuel : Nat) (cs : List Value) x, DataW.trod enc P W 0 (fun _ => true) true fuel t cs = some x → ∀ (ι : Inj) (σ : Heap), HRel ι σ W → AllRo σ → Built ι σ W ty cs) :
    ∀ (fs : List Field) (off : Nat) (ty : Ty), tyFs P (tyOf P d) fs off = some ty → ∀ (fuel : Nat) (cs : List Value), (∀ g ∈ fs, ∃ x, DataW.trod enc P W 0 (fun _ => true) true fuel g.type ((cs.drop g.offset).take (P.cellsOf g.type)) = some x) →
      off + ty.w = cs.length → ∀ (ι : Inj) (σ : Heap), HRel ι σ W → AllRo σ → Built ι σ W ty (cs.drop off)
  | [], off, ty, h, fuel, cs, _, hl, ι, σ, H, hro => by
    simp only [tyFs, Option.some.injEq] at h
    subst h
    simp only [Ty.w, Nat.add_zero] at hl
    have : cs.drop off = [] := by rw [hl]; simp
    rw [this]
    exact ⟨ι, [], [], by simpa using H, by simpa using Keeps.refl ι σ, by simpa using hro, rfl, rfl, by simp⟩
  | g :: r, off, ty, h, fuel, cs, hg, hl, ι, σ, H, hro => by
    simp only [tyFs] at h
    split at h
    · rename_i a ha
      split at h
      · rename_i hc
        obtain ⟨h1, h2⟩ := hc
        split at h
        · rename_i b hb
          cases h
          simp only [Ty.w] at hl
          obtain ⟨x, hx⟩ := hg g (by simp)
          rw [h1] at hx
          obtain ⟨ι1, e1, vs1, H1, K1, R1, S1, L1, C1⟩ := ih g.type a ha fuel _ x hx ι σ H hro
          obtain ⟨ι2, e2, vs2, H2, K2, R2, S2, L2, C2⟩ := built_fields d ih r (off + a.w) b hb fuel cs (fun g' hg' => hg g' (by simp [hg'])) (by omega) ι1 (σ ++ e1) H1 R1
          refine ⟨ι2, e1 ++ e2, vs1 ++ vs2, by rw [← List.append_assoc]; exact H2, by rw [← List.append_assoc]; exact K1.trans K2, by rw [← List.append_assoc]; exact R2, ⟨vs1, vs2, rfl, by rw [← List.append_assoc]; exact S1.mono, by rw [← List.append_assoc]; exact S2⟩, ?_, fun i v y hv hy => ?_⟩
          · rw [List.length_append, L1, L2]
            simp; omega
          · have hl1 : vs1.length = a.w := S1.len
            by_cases hi : i < vs1.length
            · rw [List.getElem?_append_left hi] at hv
              have hy' : ((cs.drop off).take (P.cellsOf g.type))[i]? = some y := by
                rw [List.getElem?_take, if_pos (by omega)]; exact hy
              obtain ⟨q1, q2⟩ := C1 i v y hv hy'
              exact ⟨q1, fun β => by rw [← List.append_assoc]; exact (q2 β).cellMono K2 q1⟩
            · rw [List.getElem?_append_right (by omega)] at hv
              have hy' : (cs.drop (off + a.w))[i - vs1.length]? = some y := by
                rw [List.getElem?_drop] at hy ⊢
                have : off + a.w + (i - vs1.length) = off + i := by omega
                rw [this]; exact hy
              obtain ⟨q1, q2⟩ := C2 _ v y hv hy'
              exact ⟨q1, fun β => by rw [← List.append_assoc]; exact q2 β⟩
        · cases h
      · cases h
    · cases h
theorem add_off {b o : Nat} (n : Nat) : Addr.add ⟨b, o, none⟩ n = ⟨b, o + n, none⟩ := by
  unfold Addr.add
  split
  · rename_i h; subst h; rfl
  · rfl
theorem built_elems {d : Nat} (ih : ∀ (t : TypeId) (ty : Ty), tyOf P d t = some ty → ∀ (fuel : Nat) (cs : List Value) x, DataW.trod enc P W 0 (fun _ => true) true fuel t cs = some x → ∀ (ι : Inj) (σ : Heap), HRel ι σ W → AllRo σ → Built ι σ W ty cs)
    {e : TypeId} {te : Ty} (hte : tyOf P d e = some te) (hw : te.w = P.cellsOf e) {fuel b o : Nat} :
    ∀ (n : Nat), (∀ i, i < n → ∃ cs x, W.cells? 0 ⟨b, o + i * te.w, none⟩ te.w = some cs ∧ DataW.trod enc P W 0 (fun _ => true) true fuel e cs = some x) → ∀ (ι : Inj) (σ : Heap), HRel ι σ W → AllRo σ →
      ∃ (ι' : Inj) (ext : Heap) (bs : List V), HRel ι' (σ ++ ext) W ∧ Keeps ι σ ι' (σ ++ ext) ∧ AllRo (σ ++ ext) ∧ bs.length = n * te.w ∧ (∀ i, i < n → Sh (σ ++ ext) te ((bs.drop (i * te.w)).take te.w)) ∧
        ∀ (j : Nat) v, bs[j]? = some v → v.cell = true ∧ ∃ x, W.cell? ⟨b, o + j, none⟩ = some x ∧ ∀ β, Rel ι' (σ ++ ext) β v x
  | 0, _, ι, σ, H0, hro => ⟨ι, [], [], by simpa using H0, by simpa using Keeps.refl ι σ, by simpa using hro, by simp, fun i hi => absurd hi (Nat.not_lt_zero i), by simp⟩
  | n + 1, hn, ι, σ, H0, hro => by
    obtain ⟨ι1, e1, bs, H1, K1, R1, L1, S1, C1⟩ := built_elems ih hte hw n (fun i hi => hn i (Nat.lt_succ_of_lt hi)) ι σ H0 hro
    obtain ⟨cs, x, hc, hx⟩ := hn n (Nat.lt_succ_self n)
    obtain ⟨ι2, e2, vs, H2, K2, R2, S2, L2, C2⟩ := ih e te hte fuel cs x hx ι1 (σ ++ e1) H1 R1
    obtain ⟨_, hcl, hcg⟩ := World.cells?_some hc
    refine ⟨ι2, e1 ++ e2, bs ++ vs, by rw [← List.append_assoc]; exact H2, by rw [← List.append_assoc]; exact K1.trans K2, by rw [← List.append_assoc]; exact R2, ?_, fun i hi => ?_, fun j v hv => ?_⟩
    · rw [List.length_append, L1, L2, hcl, Nat.succ_mul]
    · rw [← List.append_assoc]
      by_cases h : i < n
      · have h1 : (i + 1) * te.w ≤ n * te.w := Nat.mul_le_mul_right _ h
        rw [Nat.succ_mul] at h1
        have : ((bs ++ vs).drop (i * te.w)).take te.w = (bs.drop (i * te.w)).take te.w := by
          rw [List.drop_append_of_le_length (by omega), List.take_append_of_le_length (by rw [List.length_drop]; omega)]
        rw [this]
        exact (S1 i h).mono
      · have : i = n := by omega
        subst this
        have : ((bs ++ vs).drop (i * te.w)).take te.w = vs := by
          rw [← L1, List.drop_left, List.take_of_length_le (by omega)]
        rw [this]
        exact S2
    · by_cases h : j < bs.length
      · rw [List.getElem?_append_left h] at hv
        obtain ⟨q1, y, q2, q3⟩ := C1 j v hv
        exact ⟨q1, y, q2, fun β => by rw [← List.append_assoc]; exact (q3 β).cellMono K2 q1⟩
      · rw [List.getElem?_append_right (by omega)] at hv
        have hlt := get_lt hv
        have hlt' : j - bs.length < te.w := by rw [← hcl, ← L2]; exact hlt
        have hg := hcg (j - bs.length) hlt'
        rw [add_off] at hg
        have e0 : o + n * te.w + (j - bs.length) = o + j := by omega
        rw [e0] at hg
        obtain ⟨y, hy⟩ : ∃ y, cs[j - bs.length]? = some y := ⟨_, List.getElem?_eq_getElem (by omega)⟩
        obtain ⟨q1, q2⟩ := C2 _ v y hv hy
        exact ⟨q1, y, hg.trans hy, fun β => by rw [← List.append_assoc]; exact q2 β⟩
theorem built_of_trod : ∀ (d : Nat) (t : TypeId) (ty : Ty), tyOf P d t = some ty → ∀ (fuel : Nat) (cs : List Value) x, DataW.trod enc P W 0 (fun _ => true) true fuel t cs = some x → ∀ (ι : Inj) (σ : Heap), HRel ι σ W → AllRo σ → Built ι σ W ty cs
  | 0, _, _, h => by simp [tyOf] at h
  | d + 1, t, ty, h => by
    intro fuel cs x hx ι σ H0 hro
    have one : ∀ (v : V) (y : Value), cs = [y] → v.cell = true → (∀ β, Rel ι σ β v y) → Sh σ ty [v] → Built ι σ W ty cs := by
      intro v y hc hv hr hs
      refine ⟨ι, [], [v], by simpa using H0, by simpa using Keeps.refl ι σ, by simpa using hro, by simpa using hs, by rw [hc]; rfl, fun i u z hu hz => ?_⟩
      rw [hc] at hz
      cases i with
      | zero => simp at hu hz; subst hu; subst hz; exact ⟨hv, by simpa using hr⟩
      | succ i => simp at hu
    unfold tyOf at h
    split at h
    · rename_i k hu
      cases h
      obtain ⟨n, hc, _, hwf⟩ := DataW.trod_int hu hx
      exact one (.int k n) _ hc rfl (fun β => .int k n) ⟨n, rfl, hwf⟩
    · rename_i hu
      cases h
      obtain ⟨b, hc, _⟩ := DataW.trod_bool hu hx
      exact one (.bool b) _ hc rfl (fun β => .bool b) ⟨b, rfl⟩
    · rename_i hu
      cases h
      obtain ⟨s, hc, _, hwf⟩ := DataW.trod_string hu hx
      exact one (.str s.data.toList) _ hc rfl (fun β => by have := Rel.str (ι := ι) (σ := σ) (β := β) s.data.toList; simpa using this) ⟨s.data.toList, rfl, by simpa using hwf⟩
    · rename_i e hu
      split at h
      · rename_i te hte
        split at h
        · rename_i hw
          obtain ⟨hw, hpos⟩ := hw
          cases h
          rcases DataW.trod_slice hu hx with ⟨hc, _⟩ | ⟨a, len, cap, elems, rest, n, _, hc, _, _, hle, hcap, hel, hE, hR, _⟩
          · exact one .nils _ hc rfl (fun β => .nils none) (.inl rfl)
          · obtain ⟨hrl, hR⟩ := hR rfl
            have hcell : ∀ i, i < cap → ∃ cs' y, W.cells? 0 (a.add (i * P.cellsOf e)) (P.cellsOf e) = some cs' ∧ DataW.trod enc P W 0 (fun _ => true) true n e cs' = some y := by
              intro i hi
              by_cases h : i < len
              · have h1 := hE i h
                obtain ⟨y, hy⟩ : ∃ y, elems[i]? = some y := ⟨_, List.getElem?_eq_getElem (by omega)⟩
                rw [hy, Option.bind_eq_some_iff] at h1
                obtain ⟨cs', h1, h2⟩ := h1
                exact ⟨cs', y, h1, h2⟩
              · have h1 := hR (i - len) (by omega)
                obtain ⟨y, hy⟩ : ∃ y, rest[i - len]? = some y := ⟨_, List.getElem?_eq_getElem (by omega)⟩
                rw [hy, Option.bind_eq_some_iff] at h1
                obtain ⟨cs', h1, h2⟩ := h1
                rw [show len + (i - len) = i by omega] at h1
                exact ⟨cs', y, h1, h2⟩
            by_cases hc0 : cap = 0
            · subst hc0
              have : len = 0 := by omega
              subst this
              exact one .nils _ hc rfl (fun β => .nils (some a)) (.inl rfl)
            · have hsp : a.spot = none ∧ a.block < W.heap.size := by
                obtain ⟨cs', y, h1, _⟩ := hcell 0 (by omega)
                obtain ⟨_, h2, h3⟩ := World.cells?_some h1
                have h4 := h3 0 (by omega)
                obtain ⟨z, hz⟩ : ∃ z, cs'[0]? = some z := ⟨_, List.getElem?_eq_getElem (by omega)⟩
                rw [hz] at h4
                have h5 : W.cell? a = some z := by simpa [Addr.add] using h4
                exact ⟨World.cell?_spot h5, cell_block_lt h5⟩
              obtain ⟨ab, ao, asp⟩ := a
              obtain ⟨hsp, hlt⟩ := hsp
              simp only at hsp hlt
              subst hsp
              have hcell' : ∀ i, i < len → ∃ cs' y, W.cells? 0 ⟨ab, ao + i * te.w, none⟩ te.w = some cs' ∧ DataW.trod enc P W 0 (fun _ => true) true n e cs' = some y := by
                intro i hi
                have := hcell i (by omega)
                rw [add_off, ← hw] at this
                exact this
              obtain ⟨ι1, e1, bs, H1, K1, R1, L1, S1, C1⟩ := built_elems (built_of_trod d) hte hw len hcell' ι σ H0 hro
              obtain ⟨H2, R2⟩ := H1.lay R1 (c := cap * te.w) (wd := te.w) hlt C1
              have K2 := keeps_push ι1 (σ ++ e1) ⟨ab, ao, cap * te.w⟩ ⟨.ro, te.w, bs⟩
              have hg : ((σ ++ e1) ++ [(⟨.ro, te.w, bs⟩ : Blk)])[(σ ++ e1).length]? = some ⟨.ro, te.w, bs⟩ := by simp
              refine ⟨_, e1 ++ [⟨.ro, te.w, bs⟩], [.slice (σ ++ e1).length 0 len], by rw [← List.append_assoc]; exact H2, by rw [← List.append_assoc]; exact K1.trans K2, by rw [← List.append_assoc]; exact R2, .inr ⟨_, len, bs, rfl, by rw [← List.append_assoc]; exact hg, L1, by omega, fun i hi => by rw [← List.append_assoc]; exact (S1 i hi).mono⟩, by rw [hc]; rfl, fun i u z hu hz => ?_⟩
              rw [hc] at hz
              cases i with
              | zero =>
                simp at hu hz; subst hu; subst hz
                refine ⟨rfl, fun β => ?_⟩
                have := Rel.slice (ι := upd ι1 (σ ++ e1).length ⟨ab, ao, cap * te.w⟩) (σ := (σ ++ e1) ++ [⟨.ro, te.w, bs⟩]) (β := β) (σ ++ e1).length 0 len cap ⟨.ro, te.w, bs⟩ hg hle (by rw [upd_same]; simp) (by first | assumption | (simp only; omega))
                rw [upd_same] at this
                simpa using this
              | succ i => simp at hu
        · cases h
      · cases h
    · rename_i fs hu
      split at h
      · rename_i ty' hty
        split at h
        · rename_i hw
          cases h
          obtain ⟨xs, n, _, _, hl, hxl, hf⟩ := DataW.trod_struct hu hx
          have := built_fields (enc := enc) d (built_of_trod d) fs.toList 0 _ hty n cs (fun g hg => by
            obtain ⟨i, hi⟩ := List.getElem?_of_mem hg
            have h1 := hf i g (by simpa using hi)
            have : i < xs.length := by rw [hxl]; have := get_lt hi; simpa using this
            exact ⟨_, h1.trans (List.getElem?_eq_getElem this)⟩) (by omega) ι σ H0 hro
          simpa using this
        · cases h
      · cases h
    · cases h
end
open Go.RowKit Go.WideShapes Go.ChangeShapes
def argTy (P : Program) (d : Nat) (t : TypeId) : Option (Ty × Bool) :=
  match tyOf P d t with
  | some ty => (match P.underlying t with
    | some (.struct _) => some (ty, true)
    | some (.int _) | some .bool | some .string | some (.slice _) => some (ty, false)
    | _ => none)
  | none => none
def argTys (P : Program) (d : Nat) : List TypeId → Option (List (Ty × Bool))
  | [] => some []
  | t :: r => match argTy P d t, argTys P d r with
    | some a, some b => some (a :: b)
    | _, _ => none
def ArgOk (σ : Heap) : Ty × Bool → V → Prop
  | (ty, true), v => ∃ cs, v = .agg cs ∧ Sh σ ty cs ∧ cs.all V.cell = true
  | (ty, false), v => Sh σ ty [v] ∧ v.cell = true
def ArgsOk (σ : Heap) : List (Ty × Bool) → List V → Prop
  | [], [] => True
  | a :: r, v :: s => ArgOk σ a v ∧ ArgsOk σ r s
  | _, _ => False
theorem ArgOk.mono {σ e : Heap} {a : Ty × Bool} {v : V} (h : ArgOk σ a v) : ArgOk (σ ++ e) a v := by
  obtain ⟨ty, b⟩ := a
  cases b with
  | true => obtain ⟨cs, h1, h2, h3⟩ := h; exact ⟨cs, h1, h2.mono, h3⟩
  | false => exact ⟨h.1.mono, h.2⟩
theorem ArgOk.noBox {σ : Heap} {a : Ty × Bool} {v : V} (h : ArgOk σ a v) : ∀ i o, v ≠ .box i o := by
  obtain ⟨ty, b⟩ := a
  intro i o e
  subst e
  cases b with
  | true => obtain ⟨cs, h1, _⟩ := h; cases h1
  | false => have := h.2; cases this
section
variable {H : Type} {enc : TypeId × Value → H} {P : Program} {W : World} {r : Reach} {base : Nat}
theorem built_arg {d : Nat} {t : TypeId} {a : Ty × Bool} (ha : argTy P d t = some a) {v : Value} {dd : DataW H} {ps : List MemPlace} (h : DataW.Trod enc P W 0 (fun _ => true) true t v dd ps) (hok : Value.okWide P W r base t v)
    (ι : Inj) (σ : Heap) (H0 : HRel ι σ W) (hro : AllRo σ) :
    ∃ ι' e u, HRel ι' (σ ++ e) W ∧ Keeps ι σ ι' (σ ++ e) ∧ AllRo (σ ++ e) ∧ ArgOk (σ ++ e) a u ∧ ∀ β, Rel ι' (σ ++ e) β u v := by
  unfold argTy at ha
  split at ha
  · rename_i ty hty
    obtain ⟨fuel, hx⟩ := h
    obtain ⟨ι', e, vs, h1, h2, h3, h4, h5, h6⟩ := built_of_trod d t ty hty fuel _ _ hx ι σ H0 hro
    have one : ∀ (hc : v.cells = #[v]), a = (ty, false) → ∃ ι' e u, HRel ι' (σ ++ e) W ∧ Keeps ι σ ι' (σ ++ e) ∧ AllRo (σ ++ e) ∧ ArgOk (σ ++ e) a u ∧ ∀ β, Rel ι' (σ ++ e) β u v := by
      intro hc ea
      rw [hc] at h5 h6
      match vs, h5, h4, h6 with
      | [u], _, h4, h6 =>
        obtain ⟨c1, c2⟩ := h6 0 u v rfl rfl
        exact ⟨ι', e, u, h1, h2, h3, by rw [ea]; exact ⟨h4, c1⟩, c2⟩
    split at ha
    · rename_i fs hu
      cases ha
      obtain ⟨cs, rfl, _⟩ := okWide_struct hu hok
      replace h5 : vs.length = cs.toList.length := h5
      refine ⟨ι', e, .agg vs, h1, h2, h3, ⟨vs, rfl, h4, ?_⟩, fun β => ?_⟩
      · rw [List.all_eq_true]
        intro u hu'
        obtain ⟨i, hi⟩ := List.getElem?_of_mem hu'
        have : i < cs.toList.length := by rw [← h5]; exact get_lt hi
        exact (h6 i u _ hi (List.getElem?_eq_getElem this)).1
      · have := Rel.agg (ι := ι') (σ := σ ++ e) (β := β) vs cs.toList h5 (fun u hu' => by
          obtain ⟨i, hi⟩ := List.getElem?_of_mem hu'
          have : i < cs.toList.length := by rw [← h5]; exact get_lt hi
          exact (h6 i u _ hi (List.getElem?_eq_getElem this)).1) (fun i u w hi hw => (h6 i u w hi hw).2 β)
        simpa using this
    · rename_i k hu
      cases ha
      obtain ⟨n, rfl⟩ := okWide_int hu hok
      exact one rfl rfl
    · rename_i hu
      cases ha
      obtain ⟨n, rfl⟩ := okWide_bool hu hok
      exact one rfl rfl
    · rename_i hu
      cases ha
      obtain ⟨n, rfl⟩ := okWide_string hu hok
      exact one rfl rfl
    · rename_i el hu
      cases ha
      obtain ⟨x, y, z, rfl⟩ := okWide_slice hu hok
      exact one rfl rfl
    · cases ha
  · cases ha
theorem built_args {d : Nat} : ∀ {ts : List TypeId} {tys : List (Ty × Bool)}, argTys P d ts = some tys → ∀ {vs : List Value} {ds : List (DataW H)} {ps : List MemPlace}, DataW.TrodAll enc P W 0 (fun _ => true) true ts vs ds ps →
    (∀ (j : Nat) t v, ts[j]? = some t → vs[j]? = some v → Value.okWide P W r base t v) → ∀ (ι : Inj) (σ : Heap), HRel ι σ W → AllRo σ →
    ∃ ι' e us, HRel ι' (σ ++ e) W ∧ Keeps ι σ ι' (σ ++ e) ∧ AllRo (σ ++ e) ∧ ArgsOk (σ ++ e) tys us ∧ us.length = vs.length ∧ ∀ (i : Nat) u v, us[i]? = some u → vs[i]? = some v → (∀ j o, u ≠ .box j o) ∧ ∀ β, Rel ι' (σ ++ e) β u v
  | [], tys, h, vs, ds, ps, hd, _, ι, σ, H0, hro => by
    obtain ⟨rfl, _, _⟩ := trodAll_nil hd
    cases h
    exact ⟨ι, [], [], by simpa using H0, by simpa using Keeps.refl ι σ, by simpa using hro, trivial, rfl, by simp⟩
  | t :: ts, tys, h, vs, ds, ps, hd, hok, ι, σ, H0, hro => by
    obtain ⟨v, vs', x, ds', p, q, rfl, rfl, rfl, h1, h2⟩ := trodAll_cons hd
    unfold argTys at h
    split at h
    · rename_i a b ha hb
      cases h
      obtain ⟨ι1, e1, u, H1, K1, R1, A1, C1⟩ := built_arg ha h1 (hok 0 t v rfl rfl) ι σ H0 hro
      obtain ⟨ι2, e2, us, H2, K2, R2, A2, L2, C2⟩ := built_args hb h2 (fun j t' v' hj hv => hok (j + 1) t' v' hj hv) ι1 (σ ++ e1) H1 R1
      refine ⟨ι2, e1 ++ e2, u :: us, by rw [← List.append_assoc]; exact H2, by rw [← List.append_assoc]; exact K1.trans K2, by rw [← List.append_assoc]; exact R2, by rw [← List.append_assoc]; exact ⟨A1.mono, A2⟩, by simp [L2], fun i u' v' hu hv => ?_⟩
      rw [← List.append_assoc]
      cases i with
      | zero =>
        simp at hu hv; subst hu; subst hv
        exact ⟨A1.noBox, fun β => (C1 β).mono K2 (fun j o e => absurd e (A1.noBox j o))⟩
      | succ i => exact C2 i u' v' (by simpa using hu) (by simpa using hv)
    · cases h
end
def rowsOk (P : Program) (ts : List TypeId) : Bool := ts.all fun t => P.readableRec t && decide (t < P.types.size)
theorem trodAll_stays {H : Type} {enc : TypeId × Value → H} {P : Program} (hl : laidOutB P = true) {W W' : World} {sp' : Nat → Bool} : ∀ {ts : List TypeId} {vs : List Value} {ds : List (DataW H)} {ps : List MemPlace}, rowsOk P ts = true →
    DataW.TrodAll enc P W 0 (fun _ => true) true ts vs ds ps → (∀ p ∈ ps, W.sameAt W' p) → (∀ p ∈ ps, sp' p.block = true) → DataW.TrodAll enc P W' 0 sp' true ts vs ds ps
  | [], vs, ds, ps, _, h, _, _ => by
    obtain ⟨rfl, rfl, rfl⟩ := trodAll_nil h
    rfl
  | t :: ts, vs, ds, ps, hr, h, h1, h2 => by
    obtain ⟨v, vs', x, ds', p, q, rfl, rfl, rfl, g1, g2⟩ := trodAll_cons h
    unfold rowsOk at hr
    rw [List.all_cons, Bool.and_eq_true, Bool.and_eq_true, decide_eq_true_eq] at hr
    exact ⟨p, q, WideElems.Trod_stays hl hr.1.1 hr.1.2 g1 (fun y hy => h1 y (by simp [hy])) (fun y hy => h2 y (by simp [hy])), trodAll_stays hl hr.2 g2 (fun y hy => h1 y (by simp [hy])) (fun y hy => h2 y (by simp [hy])), rfl⟩
theorem post_of_under {H : Type} {enc : TypeId × Value → H} {P : Program} {f : Func} {s : ChangeSpec} {apart fresh handsOn again : Bool} {W W' : World} {args : Array Value} {v : Value} {ds gs : List (DataW H)} {before pa pv : List MemPlace}
    (hW : DataW.Whole enc P f.params.toList s.vars apart W args.toList ds gs before)
    (hres : ∀ (b : Nat) (sp : Nat → Bool) (hd : Bool), DataW.TrodAll enc P W' b sp hd f.resultTypes.toList (v.resultList f.resultTypes.size) (s.fn H (ds ++ gs)).results [])
    (hargs : ∀ sp : Nat → Bool, (∀ p ∈ before, sp p.block = true) → DataW.TrodAll enc P W' 0 sp true f.params.toList args.toList (s.fn H (ds ++ gs)).args pa)
    (hvars : ∀ sp : Nat → Bool, (∀ p ∈ before, sp p.block = true) → DataW.TrodVars enc P W' sp s.vars (s.fn H (ds ++ gs)).vars pv)
    (hps : before = pa ++ pv) (hb : Below W.heap.size W W')
    (hok : ∀ (j : Nat) (t : TypeId) (r : Value), f.resultTypes[j]? = some t → (v.resultList f.resultTypes.size)[j]? = some r → Value.okWide P W' .any 0 t r) :
    s.post enc P f apart fresh handsOn again W args v W' := by
  have hlt : ∀ p ∈ before, p.block < W.heap.size := fun p hp => hW.lt p hp
  have hold : ∀ p ∈ before, (fun b => decide (b < W.heap.size)) p.block = true := fun p hp => by simpa using hlt p hp
  refine ⟨ds, gs, before, [], pa, pv, hW, hres _ _ _, hargs _ hold, hvars _ hold, World.keptBut_mono (fun p hp => ⟨hp, ?_⟩) (hb.frame (· ∈ before)), fun _ => ?_⟩
  · rw [hps, List.mem_append] at hp
    exact Or.inr hp
  · obtain ⟨_, _, _, _, _, hz, hn⟩ := hW
    refine ⟨hok, _, _, ([] ++ pa) ++ pv, ⟨[] ++ pa, pv, trodAll_append (hargs _ (fun _ _ => rfl)) (hres _ _ _), hvars _ (fun _ _ => rfl), rfl, ?_, ?_⟩, ?_⟩
    · intro b off hp
      have hin : MemPlace.cell b off ∈ before := by rw [hps]; simpa using hp
      rw [hb.frozen (hlt _ hin)]
      exact hz b off hin
    · intro ha
      have := hn ha
      rw [hps] at this
      simpa using this
    · intro p hp _
      rw [hps]
      simpa using hp
theorem law_contract {H : Type} {enc : TypeId × Value → H} {P : Program} {f : FuncId} {fn : Func} {s : ChangeSpec} {apart fresh handsOn again : Bool} {sem : CallSem} {tys : List (Ty × Bool)} {d : Nat} {tb : TypeId}
    (hs : SoundCall P f sem) (has : argTys P d fn.params.toList = some tys) (hrows : rowsOk P fn.params.toList = true) (hl : laidOutB P = true)
    (hres : fn.resultTypes = #[tb]) (htb : P.underlying tb = some .bool) (hvars : s.vars = [])
    (hspec : ∀ ds : List (DataW H), ds.length = tys.length → s.fn H ds = { results := [.lit (.bool true)], args := ds })
    (law : ∀ (σ : Heap) (us : List V), AllRo σ → ArgsOk σ tys us → sem us σ fun r _ => r = .bool true)
    {W : World} {base : Nat} {args : Array Value} {ds gs : List (DataW H)} {before : List MemPlace}
    (hval : ∀ (j : Nat) t v, fn.params[j]? = some t → args[j]? = some v → Value.okWide P W .any base t v)
    (hW : DataW.Whole enc P fn.params.toList s.vars apart W args.toList ds gs before) :
    Calls P f args W fun e W' => ∃ v, e = .returned v ∧ s.post enc P fn apart fresh handsOn again W args v W' := by
  have hW' := hW
  obtain ⟨p, q, hA, hV, rfl, hfz, hnd⟩ := hW
  rw [hvars] at hV
  obtain ⟨rfl, rfl⟩ := trodVars_none hV
  rw [List.append_nil] at hW'
  obtain ⟨ι, e, us, H1, _, R1, A1, L1, C1⟩ := built_args (d := d) has hA (fun j t v hj hv => hval j t v (by simpa using hj) (by simpa using hv)) (fun _ => ⟨0, 0, 0⟩) [] ⟨by simp, by simp, by simp, by simp⟩ (fun l b h => by simp at h)
  simp only [List.nil_append] at H1 R1 A1 C1
  have hc := hs Phm.no ι e W us args.toList _ (.no e) (by rw [kill_no]; exact H1) (by rw [kill_no]; exact ⟨L1, fun i u v hu hv => (C1 i u v hu hv).2⟩) (law e us R1 A1)
  have hlen : ds.length = tys.length := by
    have h1 : ∀ {ts : List TypeId} {tys : List (Ty × Bool)}, argTys P d ts = some tys → tys.length = ts.length := by
      intro ts
      induction ts with
      | nil => intro tys h; cases h; rfl
      | cons t ts ih =>
        intro tys h
        unfold argTys at h
        split at h
        · rename_i a b _ hb
          cases h
          simp [ih hb]
        · cases h
    have h2 : ∀ {ts : List TypeId} {vs : List Value} {ds : List (DataW H)} {ps : List MemPlace}, DataW.TrodAll enc P W 0 (fun _ => true) true ts vs ds ps → ds.length = ts.length := by
      intro ts
      induction ts with
      | nil => intro vs ds ps h; obtain ⟨_, rfl, _⟩ := trodAll_nil h; rfl
      | cons t ts ih =>
        intro vs ds ps h
        obtain ⟨v, vs', x, ds', p, q, rfl, rfl, rfl, _, g2⟩ := trodAll_cons h
        simp [ih g2]
    rw [h1 has, h2 hA]
  refine (Calls.mono (by simpa using hc) fun en W' hd => ?_ : Calls P f args W _)
  obtain ⟨x, r, σ', ι', rfl, rfl, _, hx, _, hstep⟩ := hd
  rw [kill_no, kill_no] at hstep
  have hx' := hx (fun _ => 0)
  cases hx'
  have hb : Below W.heap.size W W' := ⟨hstep.os, hstep.tape, hstep.output, hstep.size, fun k hk => hstep.frame k hk fun l blk hl hk' => by have := R1 l blk hl; rw [hk'] at this; cases this⟩
  have hfn := hspec (ds ++ []) (by simpa using hlen)
  have hlt : ∀ x ∈ p, x.block < W.heap.size := fun x hx => hW'.lt x hx
  refine ⟨_, rfl, post_of_under (pa := p) (pv := []) hW' (fun _ _ _ => ?_) (fun sp hsp => ?_) (fun sp _ => ?_) (by simp) hb (ok_one hres rfl (okWide_bool_mk htb true))⟩
  · rw [hfn, hres]
    exact trodAll_cons_mk (shut_bool htb true) trodAll_mk0
  · rw [hfn]
    simp only [List.append_nil]
    exact trodAll_stays hl hrows hA (fun x hx => hb.same (hlt x hx)) hsp
  · rw [hfn, hvars]
    rfl
open Go.ChangeShapes
mutual
def CT.wf : (t : CT) → t.D → Prop
  | .int k, n => (Lit.int k n).wf = true
  | .bool, _ => True
  | .str, s => s.length ≤ maxLen
  | .ifc, _ => True
  | .sl r, l => @List.length r.D l ≤ maxLen ∧ ∀ x : r.D, @Membership.mem r.D (List r.D) inferInstance l x → RT.wf r x
def RT.wf : (r : RT) → r.D → Prop
  | .one t, x => CT.wf t x
  | .cons t r, x => CT.wf t x.1 ∧ RT.wf r x.2
end
def AgX.wf : (l : List (Ql × CT)) → AgX l → Prop
  | [], _ => True
  | [a], x => a.2.wf x
  | a :: b :: r, x => a.2.wf x.1 ∧ AgX.wf (b :: r) x.2
def HT.wf : (h : HT) → h.D → Prop
  | .one _ t, x => t.wf x
  | .agg l, x => AgX.wf l x
def TuX.wf : (l : List HT) → TuX l → Prop
  | [], _ => True
  | [a], x => a.wf x
  | a :: b :: r, x => a.wf x.1 ∧ TuX.wf (b :: r) x.2
def rtOf : List CT → RT
  | [] => .one .bool
  | [a] => .one a
  | a :: b :: r => .cons a (rtOf (b :: r))
def Ty.cts : Ty → List CT
  | .int k => [.int k]
  | .bool => [.bool]
  | .str => [.str]
  | .sl t => [.sl (rtOf t.cts)]
  | .unit => []
  | .pair a b => a.cts ++ b.cts
def Ty.good : Ty → Bool
  | .sl t => Nat.blt 0 t.w && t.good
  | .pair a b => a.good && b.good
  | _ => true
def htOf : Ty × Bool → HT
  | (ty, true) => .agg (ty.cts.map fun t => (.frz, t))
  | (ty, false) => match ty.cts with | [c] => .one .frz c | _ => .agg []
def argGood : Ty × Bool → Bool
  | (ty, true) => ty.good
  | (ty, false) => ty.good && ty.cts.length == 1
def DL : List CT → Type
  | [] => Unit
  | a :: r => a.D × DL r
def DL.wf : (l : List CT) → DL l → Prop
  | [], _ => True
  | a :: r, x => a.wf x.1 ∧ DL.wf r x.2
def DL.enc : (l : List CT) → DL l → List PV
  | [], _ => []
  | a :: r, x => CT.enc a x.1 :: DL.enc r x.2
def DL.encF : (l : List CT) → DL l → List PV
  | [], _ => []
  | a :: r, x => (CT.dv .frz a x.1).enc :: DL.encF r x.2
def DL.app : (l m : List CT) → DL l → DL m → DL (l ++ m)
  | [], _, _, y => y
  | _ :: l, m, x, y => (x.1, DL.app l m x.2 y)
theorem DL.app_enc : ∀ (l m : List CT) (x : DL l) (y : DL m), DL.enc (l ++ m) (DL.app l m x y) = DL.enc l x ++ DL.enc m y
  | [], _, _, _ => rfl
  | a :: l, m, x, y => by
    show CT.enc a x.1 :: DL.enc (l ++ m) (DL.app l m x.2 y) = CT.enc a x.1 :: (DL.enc l x.2 ++ DL.enc m y)
    rw [DL.app_enc l m x.2 y]
theorem DL.app_encF : ∀ (l m : List CT) (x : DL l) (y : DL m), DL.encF (l ++ m) (DL.app l m x y) = DL.encF l x ++ DL.encF m y
  | [], _, _, _ => rfl
  | a :: l, m, x, y => by
    show (CT.dv .frz a x.1).enc :: DL.encF (l ++ m) (DL.app l m x.2 y) = (CT.dv .frz a x.1).enc :: (DL.encF l x.2 ++ DL.encF m y)
    rw [DL.app_encF l m x.2 y]
theorem DL.app_wf : ∀ (l m : List CT) (x : DL l) (y : DL m), DL.wf l x → DL.wf m y → DL.wf (l ++ m) (DL.app l m x y)
  | [], _, _, _, _, h => h
  | _ :: l, m, x, y, h, h' => ⟨h.1, DL.app_wf l m x.2 y h.2 h'⟩
theorem DL.len : ∀ (l : List CT) (x : DL l), (DL.enc l x).length = l.length
  | [], _ => rfl
  | _ :: l, x => by show _ + 1 = _ + 1; rw [DL.len l x.2]
theorem DL.lenF : ∀ (l : List CT) (x : DL l), (DL.encF l x).length = l.length
  | [], _ => rfl
  | _ :: l, x => by show _ + 1 = _ + 1; rw [DL.lenF l x.2]
def DL.rt : (l : List CT) → DL l → (rtOf l).D
  | [], _ => false
  | [_], x => x.1
  | _ :: b :: r, x => (x.1, DL.rt (b :: r) x.2)
theorem DL.rt_enc : ∀ (l : List CT) (x : DL l), l ≠ [] → RT.enc (rtOf l) (DL.rt l x) = DL.enc l x
  | [], _, h => absurd rfl h
  | [_], _, _ => rfl
  | a :: b :: r, x, _ => by
    show CT.enc a x.1 :: RT.enc (rtOf (b :: r)) (DL.rt (b :: r) x.2) = CT.enc a x.1 :: DL.enc (b :: r) x.2
    rw [DL.rt_enc (b :: r) x.2 (by simp)]
theorem DL.rt_wf : ∀ (l : List CT) (x : DL l), l ≠ [] → DL.wf l x → RT.wf (rtOf l) (DL.rt l x)
  | [], _, h, _ => absurd rfl h
  | [_], _, _, h => h.1
  | a :: b :: r, x, _, h => ⟨h.1, DL.rt_wf (b :: r) x.2 (by simp) h.2⟩
def DL.ag : (l : List CT) → DL l → AgX (l.map fun t => (Ql.frz, t))
  | [], _ => ()
  | [_], x => x.1
  | _ :: b :: r, x => (x.1, DL.ag (b :: r) x.2)
theorem DL.ag_enc : ∀ (l : List CT) (x : DL l), DV.encL (agDv (l.map fun t => (Ql.frz, t)) (DL.ag l x)) = DL.encF l x
  | [], _ => rfl
  | [_], _ => rfl
  | a :: b :: r, x => by
    show (CT.dv .frz a x.1).enc :: DV.encL (agDv ((b :: r).map fun t => (Ql.frz, t)) (DL.ag (b :: r) x.2)) = (CT.dv .frz a x.1).enc :: DL.encF (b :: r) x.2
    rw [DL.ag_enc (b :: r) x.2]
theorem DL.ag_wf : ∀ (l : List CT) (x : DL l), DL.wf l x → AgX.wf (l.map fun t => (Ql.frz, t)) (DL.ag l x)
  | [], _, _ => trivial
  | [_], _, h => h.1
  | a :: b :: r, x, h => ⟨h.1, DL.ag_wf (b :: r) x.2 h.2⟩
theorem cts_len : ∀ (t : Ty), t.cts.length = t.w
  | .int _ | .bool | .str | .sl _ | .unit => rfl
  | .pair a b => by simp only [Ty.cts, Ty.w, List.length_append, cts_len a, cts_len b]
def ωro (σ : Heap) : Nat → W := fun l => if l < σ.length then .frz else .none
theorem ωro_frz {σ : Heap} {l : Nat} {b : Blk} (h : σ[l]? = some b) : ωro σ l = .frz := by
  unfold ωro; rw [if_pos (get_len h)]
theorem pget_app_left : ∀ (a b : List PV) (i : Nat), i < a.length → pget (a ++ b) i = pget a i
  | [], _, _, h => by cases h
  | _ :: _, _, 0, _ => rfl
  | _ :: a, b, i + 1, h => pget_app_left a b i (by simpa using h)
theorem pget_app_right : ∀ (a b : List PV) (i : Nat), pget (a ++ b) (a.length + i) = pget b i
  | [], _, _ => by simp
  | _ :: a, b, i => by
    have := pget_app_right a b i
    simp only [List.cons_append, List.length_cons, Nat.add_right_comm]
    exact this
theorem get_app_left : ∀ (a b : List V) (i : Nat), i < a.length → get (a ++ b) i = get a i
  | [], _, _, h => by cases h
  | _ :: _, _, 0, _ => rfl
  | _ :: a, b, i + 1, h => get_app_left a b i (by simpa using h)
theorem get_app_right : ∀ (a b : List V) (i : Nat), get (a ++ b) (a.length + i) = get b i
  | [], _, _ => by simp
  | _ :: a, b, i => by
    have := get_app_right a b i
    simp only [List.cons_append, List.length_cons, Nat.add_right_comm]
    exact this
theorem get_drop_take : ∀ (l : List V) (o n i : Nat), i < n → get ((l.drop o).take n) i = get l (o + i)
  | [], o, n, i, _ => by simp [get]
  | c :: r, 0, 0, i, h => by cases h
  | c :: r, 0, n + 1, 0, _ => rfl
  | c :: r, 0, n + 1, i + 1, h => by
    have := get_drop_take r 0 n i (by omega)
    simp only [Nat.zero_add] at this
    simp only [List.drop_zero, List.take_succ_cons, get, Nat.zero_add]
    simpa using this
  | c :: r, o + 1, n, i, h => by
    have := get_drop_take r o n i h
    rw [List.drop_succ_cons, this, Nat.add_right_comm]
    rfl
theorem pget_flat {w : Nat} : ∀ (es : List (List PV)) (i j : Nat), (∀ e ∈ es, e.length = w) → j < w → i < es.length → pget es.flatten (i * w + j) = pget (elt es i) j
  | [], i, _, _, _, h => by cases h
  | e :: r, 0, j, hw, hj, _ => by
    have he := hw e (List.mem_cons_self ..)
    rw [Nat.zero_mul, Nat.zero_add, List.flatten_cons, pget_app_left _ _ _ (by omega)]
    rfl
  | e :: r, i + 1, j, hw, hj, h => by
    have he := hw e (List.mem_cons_self ..)
    rw [List.flatten_cons, show (i + 1) * w + j = e.length + (i * w + j) by rw [he, Nat.succ_mul]; omega, pget_app_right]
    exact pget_flat r i j (fun e h => hw e (List.mem_cons_of_mem _ h)) hj (by simpa using h)
theorem elt_map' {α : Type} (f : α → List PV) : ∀ (l : List α) (i : Nat) (h : i < l.length), elt (l.map f) i = f l[i]
  | [], _, h => by cases h
  | _ :: _, 0, _ => rfl
  | _ :: l, i + 1, h => elt_map' f l i (by simpa using h)
theorem sh_data {σ : Heap} : ∀ (ty : Ty) {cs : List V}, ty.good = true → Sh σ ty cs → ∃ x : DL ty.cts, DL.wf ty.cts x ∧
    (∀ i, RC σ (ωro σ) .fz (pget (DL.enc ty.cts x) i) (get cs i)) ∧ ∀ i hd p, RC σ (ωro σ) (.at hd p) (pget (DL.encF ty.cts x) i) (get cs i)
  | .int k, cs, _, ⟨n, h, hw⟩ => by
    subst h
    exact ⟨(n, ()), ⟨hw, trivial⟩, fun i => by cases i <;> first | exact .v _ _ rfl | exact .undef _ _, fun i hd p => by cases i <;> first | exact .v _ _ rfl | exact .undef _ _⟩
  | .bool, cs, _, ⟨b, h⟩ => by
    subst h
    exact ⟨(b, ()), ⟨trivial, trivial⟩, fun i => by cases i <;> first | exact .v _ _ rfl | exact .undef _ _, fun i hd p => by cases i <;> first | exact .v _ _ rfl | exact .undef _ _⟩
  | .str, cs, _, ⟨s, h, hl⟩ => by
    subst h
    exact ⟨(s, ()), ⟨hl, trivial⟩, fun i => by cases i <;> first | exact .v _ _ rfl | exact .undef _ _, fun i hd p => by cases i <;> first | exact .v _ _ rfl | exact .undef _ _⟩
  | .unit, cs, _, h => by
    have h : cs = [] := h
    subst h
    exact ⟨(), trivial, fun i => .undef _ _, fun i hd p => .undef _ _⟩
  | .pair a b, cs, hg, ⟨xs, ys, h, h1, h2⟩ => by
    simp only [Ty.good, Bool.and_eq_true] at hg
    obtain ⟨x, x1, x2, x3⟩ := sh_data a hg.1 h1
    obtain ⟨y, y1, y2, y3⟩ := sh_data b hg.2 h2
    have hl := h1.len
    subst h
    refine ⟨DL.app _ _ x y, DL.app_wf _ _ x y x1 y1, fun i => ?_, fun i hd p => ?_⟩
    · simp only [Ty.cts]
      rw [DL.app_enc]
      by_cases hi : i < a.w
      · rw [pget_app_left _ _ _ (by rw [DL.len, cts_len]; exact hi), get_app_left _ _ _ (by rw [hl]; exact hi)]
        exact x2 i
      · obtain ⟨j, rfl⟩ := Nat.exists_eq_add_of_le (Nat.le_of_not_lt hi)
        have e1 := pget_app_right (DL.enc a.cts x) (DL.enc b.cts y) j
        have e2 := get_app_right xs ys j
        rw [DL.len, cts_len] at e1
        rw [hl] at e2
        rw [e1, e2]
        exact y2 j
    · simp only [Ty.cts]
      rw [DL.app_encF]
      by_cases hi : i < a.w
      · rw [pget_app_left _ _ _ (by rw [DL.lenF, cts_len]; exact hi), get_app_left _ _ _ (by rw [hl]; exact hi)]
        exact x3 i hd p
      · obtain ⟨j, rfl⟩ := Nat.exists_eq_add_of_le (Nat.le_of_not_lt hi)
        have e1 := pget_app_right (DL.encF a.cts x) (DL.encF b.cts y) j
        have e2 := get_app_right xs ys j
        rw [DL.lenF, cts_len] at e1
        rw [hl] at e2
        rw [e1, e2]
        exact y3 j hd p
  | .sl t, cs, hg, h => by
    simp only [Ty.good, Bool.and_eq_true] at hg
    have hw0 : 0 < t.w := Nat.le_of_ble_eq_true hg.1
    have hne : t.cts ≠ [] := by intro e; have := cts_len t; rw [e] at this; simp only [List.length_nil] at this; omega
    rcases h with h | ⟨l, n, bs, h, hb, hbl, hn, he⟩
    · subst h
      refine ⟨(([] : List (rtOf t.cts).D), ()), ⟨⟨Nat.zero_le _, fun x hx => by cases hx⟩, trivial⟩, fun i => ?_, fun i hd p => ?_⟩
      · cases i <;> first | exact .nil _ _ | exact .undef _ _
      · cases i <;> first | exact .nil _ _ | exact .undef _ _
    · subst h
      have ex : ∀ i, ∃ x : DL t.cts, i < n → DL.wf t.cts x ∧ (∀ k, RC σ (ωro σ) .fz (pget (DL.enc t.cts x) k) (get ((bs.drop (i * t.w)).take t.w) k)) := by
        intro i
        by_cases hi : i < n
        · obtain ⟨x, h1, h2, _⟩ := sh_data t hg.2 (he i hi)
          exact ⟨x, fun _ => ⟨h1, h2⟩⟩
        · have h0 : ∀ l : List CT, Nonempty (DL l) := by
            intro l
            induction l with
            | nil => exact ⟨()⟩
            | cons a r ih => obtain ⟨y⟩ := ih; exact ⟨(a.dflt, y)⟩
          obtain ⟨y⟩ := h0 t.cts
          exact ⟨y, fun h => absurd h hi⟩
      let f : Nat → DL t.cts := fun i => Classical.choose (ex i)
      have hf : ∀ i, i < n → DL.wf t.cts (f i) ∧ ∀ k, RC σ (ωro σ) .fz (pget (DL.enc t.cts (f i)) k) (get ((bs.drop (i * t.w)).take t.w) k) := fun i hi => Classical.choose_spec (ex i) hi
      let L : List (rtOf t.cts).D := (List.range n).map fun i => DL.rt t.cts (f i)
      have hL : L.length = n := by simp [L]
      have hLw : ∀ e ∈ L.map (RT.enc (rtOf t.cts)), e.length = t.w := by
        intro e he
        obtain ⟨y, hy, rfl⟩ := List.mem_map.mp he
        obtain ⟨i, _, rfl⟩ := List.mem_map.mp hy
        rw [DL.rt_enc _ _ hne, DL.len, cts_len]
      have hcell : ∀ k, k < L.length * t.w → RC σ (ωro σ) .fz (pget (L.map (RT.enc (rtOf t.cts))).flatten k) (get bs (0 + k)) := by
        intro k hk
        have hdm : k / t.w * t.w + k % t.w = k := by rw [Nat.mul_comm]; exact Nat.div_add_mod k t.w
        have hmod := Nat.mod_lt k hw0
        have hdiv : k / t.w < n := by rw [hL] at hk; exact (Nat.div_lt_iff_lt_mul hw0).2 hk
        have e1 := pget_flat (L.map (RT.enc (rtOf t.cts))) (k / t.w) (k % t.w) hLw hmod (by rw [List.length_map, hL]; exact hdiv)
        rw [hdm] at e1
        rw [e1, elt_map' _ _ _ (by rw [hL]; exact hdiv), Nat.zero_add]
        have e2 := get_drop_take bs (k / t.w * t.w) t.w (k % t.w) hmod
        rw [hdm] at e2
        have e3 : L[k / t.w]'(by rw [hL]; exact hdiv) = DL.rt t.cts (f (k / t.w)) := by simp [L]
        rw [e3, DL.rt_enc _ _ hne, ← e2]
        exact (hf _ hdiv).2 _
      have hwf : ∀ x ∈ L, RT.wf (rtOf t.cts) x := by
        intro x hx
        obtain ⟨i, hi, rfl⟩ := List.mem_map.mp hx
        exact DL.rt_wf _ _ hne (hf i (List.mem_range.mp hi)).1
      have hle : 0 + (L.map (RT.enc (rtOf t.cts))).length * t.w ≤ bs.length := by rw [List.length_map, hL, hbl]; omega
      refine ⟨(L, ()), ⟨⟨by rw [hL]; exact hn, hwf⟩, trivial⟩, fun i => ?_, fun i hd p => ?_⟩
      · cases i with
        | succ i => exact .undef _ _
        | zero => exact .sl _ _ _ _ _ _ _ hb (by simp) (ωro_frz hb) (fun e => by cases e) (by rw [List.length_map, hL]) hLw hle fun k hk => hcell k (by rw [List.length_map] at hk; exact hk)
      · cases i with
        | succ i => exact .undef _ _
        | zero => exact .sl _ _ _ _ _ _ _ hb (by simp) (ωro_frz hb) (fun _ e => by rcases e with e | ⟨_, _, e⟩ <;> cases e) (by rw [List.length_map, hL]) hLw hle fun k hk => hcell k (by rw [List.length_map] at hk; exact hk)
structure ArgD (σ : Heap) (v : PV) (u : V) : Prop where
  rc : ∀ hd p c, RC σ (ωro σ) (.at hd p) (v.fcell c) (u.fcell c)
  sh : Shp v u
  nx : ∀ c i pb tp, (v.fcell c).q ≠ some (.bor (.x i) pb tp)
theorem cell_sc {v : V} (h : v.cell = true) : (∀ us, v ≠ .agg us) ∧ ∀ us, v ≠ .tup us := by
  constructor <;> rintro us rfl <;> cases h
theorem frz_q : ∀ (l : List CT) (x : DL l) (i : Nat) (a : Hd) (pb : List Nat) (tp : Bool), (pget (DL.encF l x) i).q ≠ some (.bor a pb tp)
  | [], _, _, _, _, _ => by simp [DL.encF, pget, PV.q]
  | c :: r, x, 0, a, pb, tp => by cases c <;> simp [DL.encF, pget, CT.dv, DV.enc, PV.q]
  | _ :: r, x, i + 1, a, pb, tp => frz_q r x.2 i a pb tp
theorem arg_data {σ : Heap} {a : Ty × Bool} {u : V} (hg : argGood a = true) (h : ArgOk σ a u) : ∃ x : (htOf a).D, (htOf a).wf x ∧ ArgD σ ((htOf a).dv x).enc u := by
  obtain ⟨ty, b⟩ := a
  cases b with
  | true =>
    obtain ⟨cs, rfl, hs, hc⟩ := h
    obtain ⟨x, h1, _, h3⟩ := sh_data ty hg hs
    have hle := hs.len
    refine ⟨DL.ag ty.cts x, DL.ag_wf _ _ h1, ?_⟩
    have he : ((htOf (ty, true)).dv (DL.ag ty.cts x)).enc = .agg (DL.encF ty.cts x) := by
      show PV.agg _ = PV.agg _
      rw [DL.ag_enc]
    rw [he]
    refine ⟨fun hd p c => ?_, ⟨cs, rfl, by rw [hle, DL.lenF, cts_len]⟩, fun c i pb tp => ?_⟩
    · match c with
      | [] => exact .undef _ _
      | [c] => exact h3 c hd p
      | _ :: _ :: _ => exact .undef _ _
    · match c with
      | [] => simp [PV.fcell, PV.q]
      | [c] => exact frz_q _ _ _ _ _ _
      | _ :: _ :: _ => simp [PV.fcell, PV.q]
  | false =>
    obtain ⟨hs, hc⟩ := h
    simp only [argGood, Bool.and_eq_true, beq_iff_eq] at hg
    obtain ⟨x, h1, _, h3⟩ := sh_data ty hg.1 hs
    have key : ∀ (l : List CT) (x : DL l), l.length = 1 → DL.wf l x → (∀ i hd p, RC σ (ωro σ) (.at hd p) (pget (DL.encF l x) i) (get [u] i)) →
        ∃ y : (match l with | [c] => HT.one .frz c | _ => HT.agg []).D, (match l with | [c] => HT.one .frz c | _ => HT.agg []).wf y ∧ ArgD σ ((match l with | [c] => HT.one .frz c | _ => HT.agg []).dv y).enc u := by
      intro l x hl hwf h3
      match l, x, hl, hwf, h3 with
      | [c], x, _, hwf, h3 =>
        have hsc := cell_sc hc
        have hnf : ∀ p, p ≠ [0] → ((CT.dv .frz c x.1).enc).fcell p = .fl .undef := by
          intro p hp
          cases c <;> (match p with | [] => rfl | [0] => exact absurd rfl hp | (_ + 1) :: _ => rfl | 0 :: _ :: _ => rfl)
        have hf0 : ((CT.dv .frz c x.1).enc).fcell [0] = (CT.dv .frz c x.1).enc := by cases c <;> rfl
        have hu0 : u.fcell [0] = u := by cases u <;> first | rfl | exact absurd rfl (hsc.1 _) | exact absurd rfl (hsc.2 _)
        refine ⟨x.1, hwf.1, ⟨fun hd p q => ?_, ?_, fun q i pb tp => ?_⟩⟩
        · by_cases hq : q = [0]
          · subst hq
            show RC σ (ωro σ) (.at hd p) (((CT.dv .frz c x.1).enc).fcell [0]) (u.fcell [0])
            rw [hf0, hu0]; exact h3 0 hd p
          · show RC σ (ωro σ) (.at hd p) (((CT.dv .frz c x.1).enc).fcell q) (u.fcell q)
            rw [hnf q hq]; exact .undef _ _
        · show Shp ((CT.dv .frz c x.1).enc) u
          cases c <;> exact hsc
        · show (((CT.dv .frz c x.1).enc).fcell q).q ≠ _
          by_cases hq : q = [0]
          · subst hq
            rw [hf0]; exact frz_q [c] x 0 _ _ _
          · rw [hnf q hq]; simp [PV.q]
    exact key ty.cts x hg.2 h1 h3
theorem args_data {σ : Heap} : ∀ {tys : List (Ty × Bool)} {us : List V}, tys.all argGood = true → ArgsOk σ tys us → ∃ x : TuX (tys.map htOf), TuX.wf _ x ∧ us.length = tys.length ∧
    ∀ t, ArgD σ (pget (DV.encL (tuDv (tys.map htOf) x)) t) (get us t)
  | [], [], _, _ => ⟨(), trivial, rfl, fun t => ⟨fun hd p c => by
      have : (PV.fl V.undef).fcell c = .fl .undef := by match c with | [] => rfl | [0] => rfl | (_ + 1) :: _ => rfl | 0 :: _ :: _ => rfl
      show RC σ (ωro σ) (.at hd p) ((PV.fl V.undef).fcell c) _
      rw [this]; exact .undef _ _, trivial, fun c i pb tp => by
      have : (PV.fl V.undef).fcell c = .fl .undef := by match c with | [] => rfl | [0] => rfl | (_ + 1) :: _ => rfl | 0 :: _ :: _ => rfl
      show ((PV.fl V.undef).fcell c).q ≠ _
      rw [this]; simp [PV.q]⟩⟩
  | [a], [u], hg, h => by
    simp only [List.all_cons, List.all_nil, Bool.and_true] at hg
    obtain ⟨x, h1, h2⟩ := arg_data hg h.1
    obtain ⟨_, _, _, h4⟩ := args_data (σ := σ) (tys := []) (us := []) rfl trivial
    refine ⟨x, h1, rfl, fun t => ?_⟩
    cases t with
    | zero => exact h2
    | succ t => exact h4 t
  | a :: b :: r, u :: us, hg, h => by
    rw [List.all_cons, Bool.and_eq_true] at hg
    obtain ⟨x, h1, h2⟩ := arg_data hg.1 h.1
    obtain ⟨y, h3, h4, h5⟩ := args_data (tys := b :: r) (us := us) hg.2 h.2
    refine ⟨(x, y), ⟨h1, h3⟩, by simp [h4], fun t => ?_⟩
    cases t with
    | zero => exact h2
    | succ t => exact h5 t
  | [_], _ :: _ :: _, _, h => h.2.elim
  | [_], [], _, h => h.elim
  | _ :: _ :: _, [], _, h => h.elim
  | [], _ :: _, _, h => h.elim
theorem entry {σ : Heap} {as : List PV} {us : List V} (hl : as.length = us.length) (h : ∀ t, ArgD σ (pget as t) (get us t)) : RS σ (ωro σ) (ωro σ) (fun _ => 0) ⟨as, [], []⟩ ⟨us, [], σ⟩ X0 := by
  have no : ∀ l hd p, ωro σ l ≠ .own hd p := by intro l hd p e; unfold ωro at e; split at e <;> cases e
  have nop : ∀ l i, ωro σ l ≠ .ptr i := by intro l i e; unfold ωro at e; split at e <;> cases e
  have hund : ∀ c, (PV.fl V.undef).fcell c = .fl .undef := by
    intro c; match c with | [] => rfl | [0] => rfl | (_ + 1) :: _ => rfl | 0 :: _ :: _ => rfl
  have cat : ∀ (c : List Nat) (l : List V), (cellAt [] l c).1 = .fl .undef := by
    intro c l; match c with | [] => rfl | [_] => rfl | _ :: _ :: _ => rfl
  refine ⟨⟨fun hd p => ?_, fun l l' hd p e => absurd e (no l hd p), fun l l' i e => absurd e (nop l i), fun l e => ?_, fun l e => ?_⟩, fun t => (h t).sh, fun i => trivial, hl, rfl, fun i => rfl, fun i c => rfl, fun i c => rfl, fun i hi => (by cases hi), fun l i e => absurd e (nop l i), fun l i p e => absurd e (no l _ p), ⟨Nat.le_refl _, fun l _ _ => ⟨rfl, rfl⟩, fun l hlt e => (by rw [e]; simp), fun l i e => e⟩, fun hd p i pb tp => ?_⟩
  · cases hd with
    | s t => exact (h t).rc _ _ _
    | b i => show RC σ (ωro σ) _ (cellAt [] (getB [] i) p).1 _; rw [cat]; exact .undef _ _
    | h i => show RC σ (ωro σ) _ (cellAt [] _ p).1 _; rw [cat]; exact .undef _ _
    | x i => show RC σ (ωro σ) _ ((PV.fl V.undef).fcell p) _; rw [hund]; exact .undef _ _
  · rcases e with ⟨hd, p, e⟩ | ⟨i, e⟩
    · exact absurd e (no l hd p)
    · exact absurd e (nop l i)
  · unfold ωro at e; split at e
    · assumption
    · cases e
  · cases hd with
    | s t => exact (h t).nx p i pb tp
    | b j => show (cellAt [] (getB [] j) p).1.q ≠ _; rw [cat]; simp [PV.q]
    | h j => show (cellAt [] _ p).1.q ≠ _; rw [cat]; simp [PV.q]
    | x j => show ((PV.fl V.undef).fcell p).q ≠ _; rw [hund]; simp [PV.q]
theorem law_of {f : DFun} {tys : List (Ty × Bool)} {hs : List HT} {s : CallSem} (hsp : SoundP s (pfunSem f.er)) (hhs : tys.map htOf = hs) (hg : tys.all argGood = true) (ho : AllD f.body.obs)
    (hst : fnSt f hs (.one (.one .own .bool)) = true) (hc : ∀ x, fnChk f hs (.one (.one .own .bool)) x = true)
    (law : ∀ x : TuX hs, TuX.wf hs x → fnOk f hs (.one (.one .own .bool)) x ∧ fnV f hs (.one (.one .own .bool)) x = true) (σ : Heap) (us : List V) (hro : AllRo σ) (ha : ArgsOk σ tys us) : s us σ fun r _ => r = .bool true := by
  subst hhs
  obtain ⟨x, h1, h2, h3⟩ := args_data hg ha
  obtain ⟨l1, l2⟩ := law x h1
  have hlen : (DV.encL (tuDv (tys.map htOf) x)).length = us.length := by rw [encL_len, tuDv_len, List.length_map, h2]
  refine hsp σ (ωro σ) (fun _ => 0) _ us [] (fun r _ => r = .fl (.bool true)) _ (entry hlen h3) (fun l hd p e => ?_) ?_ fun u h' r H' ω' ρ' hQ R' _ => ?_
  · exfalso; unfold ωro at e; split at e <;> cases e
  · refine fn_sound ho hst x (hc x) l1 fun H => ?_
    rw [l2]
    rfl
  · subst hQ
    have r := R'.core.rc (.x 0) [0]
    have hs := R'.shx 0
    have r : RC h' ω' (.at (.x 0) [0]) (.fl (.bool true)) (u.fcell [0]) := r
    have hu : u.fcell [0] = u := by
      have hs : Shp (.fl (.bool true)) u := hs
      cases u <;> first | rfl | exact absurd rfl (hs.1 _) | exact absurd rfl (hs.2 _)
    rw [hu] at r
    cases r
    rfl
def rk (pu : Bool) (res : List ARes) (h0 : Heap) (Q : V → Heap → Prop) : Kont := retK ⟨0, 0, 0, pu, res, .skip⟩ h0 Q
@[congr] theorem awp_congr {c : ACode} {k : Kont} {st st' : St} (h : st = st') : awp c k st = awp c k st' := by rw [h]
@[congr] theorem aops_congr {o : List AOper} {k : St → Prop} {st st' : St} (h : st = st') : aops o k st = aops o k st' := by rw [h]
@[congr] theorem wop_congr {o : AOp} {d : Option Nat} {k : St → Prop} {st st' : St} (h : st = st') : aop o d k st = aop o d k st' := by rw [h]
@[congr] theorem seqK_congr {n : St → Prop} {k : Kont} {e e' : AExit} {st st' : St} (he : e = e') (h : st = st') : seqK n k e st = seqK n k e' st' := by rw [he, h]
@[congr] theorem blockK_congr {i : Nat} {k : Kont} {e e' : AExit} {st st' : St} (he : e = e') (h : st = st') : blockK i k e st = blockK i k e' st' := by rw [he, h]
@[congr] theorem rk_congr {pu : Bool} {res : List ARes} {h0 : Heap} {Q : V → Heap → Prop} {e e' : AExit} {st st' : St} (he : e = e') (h : st = st') : rk pu res h0 Q e st = rk pu res h0 Q e' st' := by rw [he, h]
def v_len : V → Option V
  | .nils => some (.int .i64 0)
  | .slice _ _ n => some (.int .i64 n)
  | _ => none
def v_loadH (hp : Heap) (n : Option Nat) : V → Option V
  | .ptr l o => (rd hp l o (n.getD 1)).bind fun cs => aggOr n cs
  | _ => none
def x_storeH (bx : List (List V)) (hp : Heap) (n : Nat) (a x : V) : Option (V × List (List V) × Heap) := match a with
  | .ptr l o => if x.cells.length = n ∧ x.cells.all V.cell then (wr hp l o x.cells).bind fun h => some (.undef, bx, h) else none
  | _ => none
theorem bind_some {α : Type} (o : Option α) : (o.bind fun x => some x) = o := by cases o <;> rfl
section
variable {α : Type}
def mkL (f : α → Int → α × Int) : List α → Int → List α × Int
  | [], m => ([], m)
  | a :: r, m => ((f a m).1 :: (mkL f r (f a m).2).1, (mkL f r (f a m).2).2)
end
def mkInt : IntKind → Int → Int
  | .i64, m => m
  | k, m => k.wrap m
mutual
def CT.mkI : (t : CT) → t.D → Int → t.D × Int
  | .int k, _, m => (mkInt k m, IntKind.i64.wrap (m + 1))
  | .bool, _, m => ((m.tmod 3 == 0 : Bool), IntKind.i64.wrap (m + 1))
  | .str, s, m => (s, m)
  | .ifc, b, m => (b, m)
  | .sl r, l, m => mkL (RT.mkI r) l m
def RT.mkI : (r : RT) → r.D → Int → r.D × Int
  | .one t, x, m => CT.mkI t x m
  | .cons t r, x, m => (((CT.mkI t x.1 m).1, (RT.mkI r x.2 (CT.mkI t x.1 m).2).1), (RT.mkI r x.2 (CT.mkI t x.1 m).2).2)
end
mutual
def CT.wl : (t : CT) → t.D → Prop
  | .sl r, l => l.length ≤ 9223372036854775807 ∧ ∀ a : r.D, List.Mem a l → RT.wl r a
  | _, _ => True
def RT.wl : (r : RT) → r.D → Prop
  | .one t, x => CT.wl t x
  | .cons t r, x => CT.wl t x.1 ∧ RT.wl r x.2
end
section
variable {h h' : Heap} {ω : Nat → W} {hd : Hd} {p : List Nat}
abbrev Under (ω : Nat → W) (hd : Hd) (p : List Nat) : Nat → Prop := fun l => ∃ q, ω l = .own hd (p ++ q)
abbrev MS (h : Heap) (ω : Nat → W) (hd : Hd) (p : List Nat) (r : RT) (l : List r.D) (u : V) : Prop := RC h ω (.inn hd p) (.sl .own (l.map r.enc)) u
theorem MS.len {r : RT} {l : List r.D} {u : V} (M : MS h ω hd p r l u) : v_len u = some (.int .i64 (l.length : Int)) := by
  unfold MS at M
  generalize he : l.map r.enc = es at M
  have hl : l.length = es.length := by rw [← he, List.length_map]
  cases M with
  | nil => rw [hl]; rfl
  | sl _ _ _ l o n b h1 hk hc hne hn hw hle hr => rw [hl, ← hn]; rfl
theorem MS.ok1 {r : RT} {l : List r.D} {u : V} (M : MS h ω hd p r l u) : u.ok1 = true ∧ u.cell = true := by
  unfold MS at M
  generalize l.map r.enc = es at M
  cases M <;> exact ⟨rfl, rfl⟩
theorem MS.slice {r : RT} {l : List r.D} {u : V} (M : MS h ω hd p r l u) (hl : 0 < l.length) : ∃ b, u = .slice b 0 l.length := by
  unfold MS at M
  generalize he : l.map r.enc = es at M
  have hl' : l.length = es.length := by rw [← he, List.length_map]
  cases M with
  | nil => rw [hl'] at hl; simp at hl
  | sl _ _ _ b o n bk h1 hk hc hne hn hw hle hr =>
    obtain ⟨_, rfl, _⟩ := hc
    exact ⟨b, by rw [hl', hn]⟩
theorem MS.upd {r : RT} {l : List r.D} {b n : Nat} (M : MS h ω hd p r l (.slice b 0 n)) {i off : Nat} (hi : i < l.length) (hoff : off < r.w) {y : r.D} {c : PV} (hy : r.enc y = psplice (r.enc (l.getD i r.dflt)) off [c])
    {bk : Blk} (h1 : h[b]? = some bk) {cs' : List V} (h1' : h'[b]? = some { bk with cs := cs' }) (hcl : cs'.length = bk.cs.length) {v : V} (hcs : ∀ k, get cs' k = if k = i * r.w + off then v else get bk.cs k)
    (hO : ∀ x, x ≠ b → (∀ q, ω x ≠ .own hd (p ++ (i * r.w + off) :: q)) → h'[x]? = h[x]?) (hc : RC h' ω (.inn hd (p ++ [i * r.w + off])) c v) : MS h' ω hd p r (l.set i y) (.slice b 0 n) := by
  unfold MS at M ⊢
  rw [← eput_map, hy, ← elt_map r l i hi]
  generalize he : l.map r.enc = es at M
  have hl' : l.length = es.length := by rw [← he, List.length_map]
  have hwr : ∀ e ∈ es, e.length = r.w := by rw [← he]; intro e h; obtain ⟨x, _, rfl⟩ := List.mem_map.1 h; exact rt_len r x
  have hi' : i < es.length := by rw [← hl']; exact hi
  cases M with
  | sl _ _ _ _ o _ bk' h1b hk hch hne hn hw hle hr =>
    rw [h1] at h1b; cases h1b
    have hbw : bk.w = r.w := by rw [← hw _ (List.getElem_mem (l := es) hi')]; exact hwr _ (List.getElem_mem hi')
    have hel := elt_len hw hi'
    obtain ⟨hb1, _, hb3⟩ := hch
    refine RC.sl _ .own _ b 0 n { bk with cs := cs' } h1' hk ⟨hb1, rfl, hb3⟩ (fun _ _ h => by have := congrArg List.length h; rw [eput_len] at this; simp only [List.length_nil] at this; omega) (by rw [eput_len]; exact hn) (eput_w hw (by rw [psplice_len]; exact hel)) (by rw [eput_len]; simp only [hcl]; exact hle) fun k hk' => ?_
    simp only [eput_len] at hk'
    rw [eput_flat hw hi' (by rw [hbw]; simp only [List.length_cons, List.length_nil]; omega) k hk', Nat.zero_add, hcs]
    simp only [List.length_cons, List.length_nil, hbw]
    by_cases hkk : k = i * r.w + off
    · subst hkk
      rw [if_pos ⟨by omega, by omega⟩, if_pos rfl, Nat.sub_self]
      exact hc
    · rw [if_neg (by omega), if_neg hkk]
      have r0 := hr k hk'
      rw [Nat.zero_add] at r0
      refine r0.inn0 (f := Ren.id) (T := fun x => x = b ∨ ∃ q, ω x = .own hd (p ++ (i * r.w + off) :: q)) ⟨fun x e => ⟨e, hO x (by rintro rfl; rw [hb1] at e; cases e) (fun q e' => by rw [e] at e'; cases e')⟩, fun x a q e hn => ⟨by rw [e]; rfl, hO x (fun h => hn (.inl h)) (fun q' e' => hn (.inr ⟨q', e'⟩))⟩⟩ (fun x q e hT => ?_) (fun q => rfl)
      rcases hT with rfl | ⟨q', e'⟩
      · rw [hb1] at e
        simp only [W.own.injEq] at e
        have := congrArg List.length e.2
        simp at this
      · rw [e] at e'
        simp only [W.own.injEq, List.append_assoc, List.cons_append, List.nil_append, List.append_cancel_left_eq, List.cons.injEq] at e'
        exact hkk e'.2.1
theorem MS.store {r : RT} {l : List r.D} {b n : Nat} (M : MS h ω hd p r l (.slice b 0 n)) {i off : Nat} (hi : i < l.length) (hoff : off < r.w) {v : V} (hv : v.flat = true) (hvc : v.cells = [v]) {y : r.D} (hy : r.enc y = psplice (r.enc (l.getD i r.dflt)) off [.fl v])
    (hinj : ∀ l l' a q, ω l = .own a q → ω l' = .own a q → l = l') (bx : List (List V)) : ∃ h', x_storeH bx h 1 (.ptr b (i * r.w + off)) v = some (.undef, bx, h') ∧ Only (Under ω hd p) h h' ∧ MS h' ω hd p r (l.set i y) (.slice b 0 n) := by
  have M0 := M
  unfold MS at M0
  generalize he : l.map r.enc = es at M0
  have hl' : l.length = es.length := by rw [← he, List.length_map]
  have hwr : ∀ e ∈ es, e.length = r.w := by rw [← he]; intro e h; obtain ⟨x, _, rfl⟩ := List.mem_map.1 h; exact rt_len r x
  have hi' : i < es.length := by rw [← hl']; exact hi
  cases M0 with
  | sl _ _ _ _ o _ bk h1 hk hch hne hn hw hle hr =>
    have hbw : bk.w = r.w := by rw [← hw _ (List.getElem_mem (l := es) hi')]; exact hwr _ (List.getElem_mem hi')
    obtain ⟨hb1, _, hb3⟩ := hch
    have hlt : i * r.w + off < bk.cs.length := by
      have : (i + 1) * r.w ≤ es.length * r.w := Nat.mul_le_mul_right _ hi'
      rw [Nat.add_mul, Nat.one_mul] at this
      rw [hbw] at hle
      omega
    have hb : b < h.length := get_len h1
    have hset : ∀ k, (h.set b { bk with cs := splice bk.cs (i * r.w + off) [v] })[k]? = if k = b then some { bk with cs := splice bk.cs (i * r.w + off) [v] } else h[k]? := by
      intro k
      rw [List.getElem?_set]
      by_cases hk : b = k
      · subst hk; simp [hb]
      · rw [if_neg hk, if_neg (fun h' => hk h'.symm)]
    have hvcell : [v].all V.cell = true := by
      cases v <;> first | rfl | (simp [V.flat] at hv)
    refine ⟨h.set b { bk with cs := splice bk.cs (i * r.w + off) [v] }, ?_, ⟨by simp, fun x hx => ?_, fun x bx' hx => ?_⟩, M.upd hi hoff hy h1 (cs' := splice bk.cs (i * r.w + off) [v]) (v := v) (by rw [hset, if_pos rfl]) (splice_len _ _ _) (fun k => ?_) (fun x hx _ => by rw [hset, if_neg hx]) (.v _ _ hv)⟩
    · have hwr' : wr h b (i * r.w + off) [v] = some (h.set b { bk with cs := splice bk.cs (i * r.w + off) [v] }) := by
        rw [wr, h1]; simp only; rw [if_pos ⟨hb3, by simp only [List.length_cons, List.length_nil]; omega⟩]
      simp only [x_storeH, hvc, hvcell, List.length_cons, List.length_nil, hwr']
      rfl
    · rw [hset, if_neg]
      rintro rfl
      exact hx ⟨[], by rw [hb1]; simp⟩
    · by_cases hxb : x = b
      · subst hxb
        rw [h1] at hx; cases hx
        exact ⟨{ bk with cs := splice bk.cs (i * r.w + off) [v] }, by rw [hset, if_pos rfl], rfl, rfl, splice_len _ _ _⟩
      · exact ⟨bx', by rw [hset, if_neg hxb]; exact hx, rfl, rfl, rfl⟩
    · rw [splice_get' _ _ _ _ (by simp only [List.length_cons, List.length_nil]; omega)]
      simp only [List.length_cons, List.length_nil]
      by_cases hkk : k = i * r.w + off
      · subst hkk; rw [if_pos ⟨by omega, by omega⟩, if_pos rfl, Nat.sub_self]; rfl
      · rw [if_neg (by omega), if_neg hkk]
theorem MS.load {r : RT} {l : List r.D} {b n : Nat} (M : MS h ω hd p r l (.slice b 0 n)) {i off : Nat} (hi : i < l.length) (hoff : off < r.w) {r' : RT} {l' : List r'.D} (hx : pget (r.enc (l.getD i r.dflt)) off = .sl .own (l'.map r'.enc)) :
    ∃ u, v_loadH h none (.ptr b (i * r.w + off)) = some u ∧ MS h ω hd (p ++ [i * r.w + off]) r' l' u ∧ ∃ bk, h[b]? = some bk ∧ get bk.cs (i * r.w + off) = u := by
  have M0 := M
  unfold MS at M0
  rw [← elt_map r l i hi] at hx
  generalize he : l.map r.enc = es at M0 hx
  have hl' : l.length = es.length := by rw [← he, List.length_map]
  have hwr : ∀ e ∈ es, e.length = r.w := by rw [← he]; intro e h; obtain ⟨x, _, rfl⟩ := List.mem_map.1 h; exact rt_len r x
  have hi' : i < es.length := by rw [← hl']; exact hi
  cases M0 with
  | sl _ _ _ _ o _ bk h1 hk hch hne hn hw hle hr =>
    have hbw : bk.w = r.w := by rw [← hw _ (List.getElem_mem (l := es) hi')]; exact hwr _ (List.getElem_mem hi')
    have hm : (i + 1) * r.w ≤ es.length * r.w := Nat.mul_le_mul_right _ hi'
    rw [Nat.add_mul, Nat.one_mul] at hm
    have hlt : i * r.w + off < bk.cs.length := by rw [hbw] at hle; omega
    have r0 := hr (i * r.w + off) (by rw [hbw]; omega)
    rw [Nat.zero_add] at r0
    have hf : pget es.flatten (i * r.w + off) = pget (elt es i) off := flat_get (w := r.w) (by rw [← hbw]; exact hw) i off hoff
    rw [hf, hx] at r0
    refine ⟨get bk.cs (i * r.w + off), ?_, r0, bk, h1, rfl⟩
    have e1 : rd h b (i * r.w + off) 1 = some ((bk.cs.drop (i * r.w + off)).take 1) := by
      rw [rd, h1]; simp only; rw [if_pos ⟨hk, by omega⟩]
    show (rd h b (i * r.w + off) 1).bind (aggOr none) = _
    rw [e1]
    rw [List.drop_eq_getElem_cons hlt]
    simp only [List.take_succ_cons, List.take_zero, Option.bind_some, aggOr, get_eq, List.getElem?_eq_getElem hlt]
    rfl
theorem MS.sub {r : RT} {l : List r.D} {b n : Nat} (M : MS h ω hd p r l (.slice b 0 n)) {i off : Nat} (hi : i < l.length) (hoff : off < r.w) {u : V} {bk : Blk} (h1 : h[b]? = some bk) (hu : get bk.cs (i * r.w + off) = u)
    (hO : Only (Under ω hd (p ++ [i * r.w + off])) h h') {r' : RT} {l' : List r'.D} (hr : MS h' ω hd (p ++ [i * r.w + off]) r' l' u) {y : r.D} (hy : r.enc y = psplice (r.enc (l.getD i r.dflt)) off [.sl .own (l'.map r'.enc)]) :
    Only (Under ω hd p) h h' ∧ MS h' ω hd p r (l.set i y) (.slice b 0 n) := by
  have hb1 : ω b = .own hd p := by
    have M0 := M
    unfold MS at M0
    generalize l.map r.enc = es at M0
    cases M0 with
    | sl _ _ _ _ o _ bk h1 hk hch hne hn hw hle hr => exact hch.1
  refine ⟨hO.mono fun x ⟨q, e⟩ => ⟨(i * r.w + off) :: q, by rw [e]; simp⟩, M.upd hi hoff hy h1 (cs' := bk.cs) (v := u) ?_ rfl (fun k => ?_) (fun x _ hx => hO.off x (fun ⟨q, e⟩ => hx q (by rw [e]; simp))) hr⟩
  · rw [hO.off b]
    · exact h1
    · rintro ⟨q, e⟩
      rw [hb1] at e
      simp only [W.own.injEq] at e
      have := congrArg List.length e.2
      simp at this
  · split
    · rename_i hk; rw [hk, hu]
    · rfl
theorem MS.frame {r : RT} {l : List r.D} {u : V} (M : MS h ω hd p r l u) {i : Nat} (hi : i < l.length) : MS h ω hd p r (l.set i (l.getD i r.dflt)) u := by
  have : l.set i (l.getD i r.dflt) = l := by
    rw [List.getD_eq_getElem?_getD, List.getElem?_eq_getElem hi]
    simp
  rw [this]; exact M
theorem ms_set_get {r : RT} {l : List r.D} {i : Nat} (hi : i < l.length) (x : r.D) : (l.set i x).getD i r.dflt = x := by
  rw [List.getD_eq_getElem?_getD, List.getElem?_set_self (by simpa using hi)]; rfl
theorem MS.st {r : RT} {l : List r.D} {b n i : Nat} {x : r.D} (M : MS h ω hd p r (l.set i x) (.slice b 0 n)) (hi : i < l.length) {off : Nat} (hoff : off < r.w) {v : V} (hv : v.flat = true) (hvc : v.cells = [v]) {y : r.D} (hy : r.enc y = psplice (r.enc x) off [.fl v])
    (hinj : ∀ l l' a q, ω l = .own a q → ω l' = .own a q → l = l') (bx : List (List V)) : ∃ h', x_storeH bx h 1 (.ptr b (i * r.w + off)) v = some (.undef, bx, h') ∧ Only (Under ω hd p) h h' ∧ MS h' ω hd p r (l.set i y) (.slice b 0 n) := by
  obtain ⟨h', e1, e2, e3⟩ := M.store (i := i) (off := off) (by simpa using hi) hoff hv hvc (y := y) (by rw [ms_set_get hi]; exact hy) hinj bx
  rw [List.set_set] at e3
  exact ⟨h', e1, e2, e3⟩
theorem MS.sb {r : RT} {l : List r.D} {b n i : Nat} {x : r.D} (M : MS h ω hd p r (l.set i x) (.slice b 0 n)) (hi : i < l.length) {off : Nat} (hoff : off < r.w) {r' : RT} {l' : List r'.D} (hx : pget (r.enc x) off = .sl .own (l'.map r'.enc)) :
    ∃ u, v_loadH h none (.ptr b (i * r.w + off)) = some u ∧ MS h ω hd (p ++ [i * r.w + off]) r' l' u ∧
      ∀ (h' : Heap) (l'' : List r'.D) (y : r.D), Only (Under ω hd (p ++ [i * r.w + off])) h h' → MS h' ω hd (p ++ [i * r.w + off]) r' l'' u → r.enc y = psplice (r.enc x) off [.sl .own (l''.map r'.enc)] → Only (Under ω hd p) h h' ∧ MS h' ω hd p r (l.set i y) (.slice b 0 n) := by
  obtain ⟨u, e1, e2, bk, e3, e4⟩ := M.load (i := i) (off := off) (by simpa using hi) hoff (r' := r') (l' := l') (by rw [ms_set_get hi]; exact hx)
  refine ⟨u, e1, e2, fun h' l'' y hO hM hy => ?_⟩
  obtain ⟨k1, k2⟩ := M.sub (i := i) (off := off) (by simpa using hi) hoff e3 e4 hO hM (y := y) (by rw [ms_set_get hi]; exact hy)
  rw [List.set_set] at k2
  exact ⟨k1, k2⟩
theorem RC.flat1 {H : Heap} {m : Md} {x u : V} (r : RC H ω m (.fl x) u) (hx : x ≠ .undef) : u = x := by
  cases r with
  | undef => exact absurd rfl hx
  | v => rfl
end
def SlC (s : CallSem) (r : RT) : Prop := ∀ (h : Heap) (ω : Nat → W) (hd : Hd) (p : List Nat) (l : List r.D) (u : V) (m : Int) (Q : V → Heap → Prop), CT.wl (.sl r) l → (∀ l l' a q, ω l = .own a q → ω l' = .own a q → l = l') → MS h ω hd p r l u →
  (∀ h', Only (Under ω hd p) h h' → MS h' ω hd p r (mkL r.mkI l m).1 u → Q (.int .i64 (mkL r.mkI l m).2) h') → s [u, .int .i64 m] h Q
def slMk (r : RT) : DMk := ⟨.one (.sl r), false, fun l => CT.wl (.sl r) l, fun l m => mkL r.mkI l m, false⟩
theorem SlC.sound {s : CallSem} {r : RT} (hs : SlC s r) : SoundM s (slMk r).P := by
  rintro h ω hd P b olds us u m K Q hinj hu hl hr ⟨x, rfl, hok, hK⟩ hQ
  have hu : us = [u] := hu
  subst hu
  have h0 := hr 0 (by show 0 < 1; omega)
  refine hs h ω hd (P ++ [b]) x u m Q hok hinj h0 fun h' hO hM => ?_
  refine hQ _ _ h' hK rfl (hO.mono fun l ⟨q, e⟩ => ⟨0, _, q, by show 0 < 1; omega, rfl, by rw [e]; simp⟩) fun c hc => ?_
  have : c = 0 := by have : c < 1 := hc; omega
  subst this
  exact hM
theorem bNot_eq (a : Bool) : bNot a = !a := by simp only [bNot_u]
theorem bAnd_eq (a b : Bool) : bAnd a b = (a && b) := by simp only [bAnd_u]
theorem bOr_eq (a b : Bool) : bOr a b = (a || b) := by simp only [bOr_u]
theorem bIff_eq (a b : Bool) : bIff a b = (a == b) := by simp only [bIff_u]
theorem bSel_eq {α : Type} (c : Bool) (x y : α) : bSel c x y = if c = true then x else y := by cases c <;> simp [bSel_t, bSel_f]
theorem iEq_eq (a b : Int) : iEq a b = decide (a = b) := by
  rw [iEq_u]; by_cases h : a = b <;> simp [h]
theorem iNe_eq (a b : Int) : iNe a b = !decide (a = b) := by
  rw [iNe_u]; by_cases h : a = b <;> simp [h]
theorem iLt_eq (a b : Int) : iLt a b = decide (a < b) := by simp only [iLt_u]
theorem iLe_eq (a b : Int) : iLe a b = decide (a ≤ b) := by simp only [iLe_u]
theorem iGt_eq (a b : Int) : iGt a b = decide (b < a) := by simp only [iGt_u]
theorem iGe_eq (a b : Int) : iGe a b = decide (b ≤ a) := by simp only [iGe_u]
theorem sEq_eq (a b : List UInt8) : sEq a b = (a == b) := by simp only [sEq_u]
theorem sNe_eq (a b : List UInt8) : sNe a b = !(a == b) := by simp only [sNe_u]
section
variable {α : Type}
theorem lLen_eq (l : List α) : lLen l = (l.length : Int) := by simp only [lLen_u]
theorem lN_eq (l : List α) : lN l = l.length := by simp only [lN_u]
theorem lGet_eq (l : List α) (j : Nat) (d : α) : lGet l j d = l.getD j d := by simp only [lGet_u]
theorem lSet_eq (l : List α) (j : Nat) (x : α) : lSet l j x = l.set j x := by simp only [lSet_u]
theorem lSub_eq (l : List α) (a b : Nat) : lSub l a b = (l.drop a).take (b - a) := by simp only [lSub_u]
theorem lTake_eq (l : List α) (n : Nat) : lTake l n = l.take n := by simp only [lTake_u]
theorem lApp_eq (l m : List α) : lApp l m = l ++ m := by simp only [lApp_u]
theorem lRep_eq (n : Int) (x : α) : lRep n x = List.replicate n.toNat x := by simp only [lRep_u]
theorem iNat_eq (a : Int) : iNat a = a.toNat := by simp only [iNat_u]
theorem sAdd_eq (a b : List UInt8) : sAdd a b = a ++ b := by simp only [sAdd_u]
end
def In64 (n : Int) : Prop := -9223372036854775808 ≤ n ∧ n ≤ 9223372036854775807
theorem wrap_i64 {n : Int} (h : In64 n) : IntKind.i64.wrap n = n := by
  obtain ⟨h1, h2⟩ := h
  show (if decide (n % 18446744073709551616 ≥ 9223372036854775808) = true then n % 18446744073709551616 - 18446744073709551616 else n % 18446744073709551616) = n
  simp only [decide_eq_true_eq]
  split <;> omega
theorem iAdd_i64 {a b : Int} (h : In64 (a + b)) : iAdd .i64 a b = a + b := by rw [iAdd_u]; exact wrap_i64 h
theorem iSub_i64 {a b : Int} (h : In64 (a - b)) : iSub .i64 a b = a - b := by rw [iSub_u]; exact wrap_i64 h
theorem iMul_i64 {a b : Int} (h : In64 (a * b)) : iMul .i64 a b = a * b := by rw [iMul_u]; exact wrap_i64 h
theorem iRem_nn {a b : Int} (ha : 0 ≤ a) : iRem a b = a % b := by rw [iRem_u]; exact Int.tmod_eq_emod_of_nonneg ha
section
variable {X : Type} {c : X → Bool} {f : X → X} {p : X → Prop}
theorem loop_inv (I : X → Prop) (m : X → Nat) (h : ∀ x, I x → p x ∧ (c x = true → I (f x) ∧ m (f x) < m x)) {x0 : X} (h0 : I x0) :
    LoopOk c f p x0 ∧ I (loopV c f x0) ∧ c (loopV c f x0) = false := by
  have go : ∀ (n : Nat) (x : X), m x < n → I x → ∃ y, LoopTo c f p x y ∧ I y ∧ c y = false := by
    intro n
    induction n with
    | zero => intro x hm; exact absurd hm (Nat.not_lt_zero _)
    | succ n ih =>
      intro x hm hI
      obtain ⟨h1, h2⟩ := h x hI
      cases hc : c x with
      | false => exact ⟨x, .stop h1 hc, hI, hc⟩
      | true =>
        obtain ⟨h3, h4⟩ := h2 hc
        obtain ⟨y, h5, h6, h7⟩ := ih (f x) (by omega) h3
        exact ⟨y, .go h1 hc h5, h6, h7⟩
  obtain ⟨y, h1, h2, h3⟩ := go _ x0 (Nat.lt_succ_self _) h0
  rw [h1.val]
  exact ⟨⟨y, h1⟩, h2, h3⟩
theorem loop_inv_v (I : X → Prop) (m : X → Nat) (h : ∀ x, I x → c x = true → I (f x) ∧ m (f x) < m x) {x0 : X} (h0 : I x0) : I (loopV c f x0) ∧ c (loopV c f x0) = false :=
  (loop_inv (p := fun _ => True) I m (fun x hx => ⟨trivial, h x hx⟩) h0).2
theorem loop_for (n : Nat) (st : Nat → X) {x0 : X} (h0 : st 0 = x0) (hs : ∀ k, k < n → p (st k) ∧ c (st k) = true ∧ f (st k) = st (k + 1)) (he : p (st n) ∧ c (st n) = false) : LoopOk c f p x0 ∧ loopV c f x0 = st n := by
  have go : ∀ k, k ≤ n → LoopTo c f p (st (n - k)) (st n) := by
    intro k
    induction k with
    | zero => intro _; exact .stop he.1 he.2
    | succ k ih =>
      intro hk
      obtain ⟨h1, h2, h3⟩ := hs (n - (k + 1)) (by omega)
      refine .go h1 h2 ?_
      rw [h3, show n - (k + 1) + 1 = n - k by omega]
      exact ih (by omega)
  have := go n (Nat.le_refl _)
  rw [Nat.sub_self, h0] at this
  exact ⟨⟨_, this⟩, this.val⟩
end
def firstAt (t : Nat → Bool) : Nat → Nat → Nat
  | 0, i => i
  | k + 1, i => if t i then i else firstAt t k (i + 1)
theorem firstAt_le (t : Nat → Bool) : ∀ k i, i ≤ firstAt t k i ∧ firstAt t k i ≤ i + k
  | 0, i => ⟨Nat.le_refl _, Nat.le_refl _⟩
  | k + 1, i => by
    unfold firstAt
    split
    · omega
    · have := firstAt_le t k (i + 1); omega
theorem firstAt_lt (t : Nat → Bool) : ∀ k i, firstAt t k i < i + k → t (firstAt t k i) = true
  | 0, i, h => by unfold firstAt at h; omega
  | k + 1, i, h => by
    unfold firstAt at h ⊢
    split
    · rename_i ht; exact ht
    · rename_i ht
      rw [if_neg ht] at h
      exact firstAt_lt t k (i + 1) (by omega)
theorem firstAt_no (t : Nat → Bool) : ∀ k i j, i ≤ j → j < firstAt t k i → t j = false
  | 0, i, j, h, h' => by unfold firstAt at h'; omega
  | k + 1, i, j, h, h' => by
    unfold firstAt at h'
    split at h'
    · omega
    · rename_i ht
      by_cases hj : j = i
      · subst hj; simpa using ht
      · exact firstAt_no t k (i + 1) j (by omega) h'
theorem firstAt_all {t : Nat → Bool} {n : Nat} : firstAt t n 0 = n ↔ ∀ i, i < n → t i = false := by
  constructor
  · intro h i hi; exact firstAt_no t n 0 i (by omega) (by omega)
  · intro h
    have hle := firstAt_le t n 0
    rcases Nat.lt_or_ge (firstAt t n 0) n with h1 | h1
    · have := firstAt_lt t n 0 (by omega); rw [h _ h1] at this; cases this
    · omega
theorem getD_mem {α : Type} (x : List α) (i : Nat) (d : α) (h : i < x.length) : x.getD i d ∈ x := by
  rw [List.getD_eq_getElem?_getD, List.getElem?_eq_getElem h]; exact List.getElem_mem h
theorem cnt_ok {X : Type} {c : X → Bool} {f : X → X} {p : X → Prop} (ix : X → Int) (n : Int) (hn : n ≤ 9223372036854775806) (hc : ∀ x, 0 ≤ ix x → ix x ≤ n → c x = true → ix x < n) (hf : ∀ x, ix (f x) = iAdd .i64 (ix x) 1) (hp : ∀ x, 0 ≤ ix x → ix x ≤ n → p x) {x0 : X} (h0 : 0 ≤ ix x0) (h1 : ix x0 ≤ n) : LoopOk c f p x0 := by
  refine (loop_inv (fun x => 0 ≤ ix x ∧ ix x ≤ n) (fun x => (n - ix x).toNat) (fun x hI => ⟨hp x hI.1 hI.2, fun hcc => ?_⟩) ⟨h0, h1⟩).1
  have := hc x hI.1 hI.2 hcc
  obtain ⟨k1, k2⟩ := hI
  have e := hf x
  rw [iAdd_i64 (by unfold In64; omega)] at e
  refine ⟨by omega, by omega⟩
open Go.Sort
def sortL (l : List Int) : List Int := l.mergeSort fun x y => decide (x ≤ y)
theorem sortL_len (l : List Int) : (sortL l).length = l.length := List.length_mergeSort l
def intsV (l : List Int) : List V := l.map fun n => .int .i64 n
def s_sort_Ints : CallSem := fun args h Q => match args with
  | [.nils] => Q .undef h
  | [.slice l 0 n] => ∃ (b : Blk) (zs : List Int), h[l]? = some b ∧ b.k = .own ∧ zs.length = n ∧ 0 < n ∧ n < 4611686018427387904 ∧ b.cs = intsV zs ++ b.cs.drop n ∧ Q .undef (h.set l { b with cs := intsV (sortL zs) ++ b.cs.drop n })
  | _ => False
def SortSaid (P : Program) (g : FuncId) : Prop :=
  (∀ (blk off cap : Nat) (zs : List Int) (w : World), Holds (Value.int .i64) w blk off zs.toArray → blk < w.heap.size → zs.length < 4611686018427387904 →
    Calls P g #[.slice (some ⟨blk, off, none⟩) zs.length cap] w fun e w' => e = .returned (.tuple #[]) ∧ ∃ n os, w' = grow (putRow (Value.int .i64) (Sort.ahead w n) blk off (zs.mergeSort fun x y => decide (x ≤ y)).toArray) os) ∧
  ∀ (p : Option Addr) (cap : Nat) (w : World), Calls P g #[.slice p 0 cap] w fun e w' => e = .returned (.tuple #[]) ∧ w' = w
theorem write_row {ι : Inj} {k : Heap} {w w' : World} {l : Nat} {blk : Blk} {cs' : List V} {arr' : Array Value} {e : TypeId} (H : HRel ι k w) (hb : k[l]? = some blk) (k1 : blk.k = .own) (hl : cs'.length = blk.cs.length) (hsize : w.heap.size ≤ w'.heap.size)
    (hoth : ∀ j, j < w.heap.size → j ≠ (ι l).b → w'.heap[j]? = w.heap[j]?) (hrow : w'.heap[(ι l).b]? = some (.cells arr' e (0, 0))) (hsz : arr'.size = (ι l).c) (hcells : ∀ (i : Nat) u, cs'[i]? = some u → u.cell = true ∧ ∃ z, arr'[i]? = some z ∧ ∀ β, Rel ι k β u z)
    (ho : w'.os = w.os) (hout : w'.output = w.output) (ht : w'.tape = w.tape) : HRel ι (k.set l { blk with cs := cs' }) w' ∧ Step ι k w ι (k.set l { blk with cs := cs' }) w' := by
  have K := keeps_set ι k l blk { blk with cs := cs' } hb rfl
  have hset : ∀ (j : Nat) (b : Blk), (k.set l { blk with cs := cs' })[j]? = some b → (j = l ∧ b = { blk with cs := cs' }) ∨ (j ≠ l ∧ k[j]? = some b) := by
    intro j b hj
    rcases set_get hj with ⟨h1, h2, _⟩ | h
    · exact .inl ⟨h1, h2⟩
    · exact .inr h
  obtain ⟨z0, g2, _⟩ := H.own l blk hb k1
  have hfar : ∀ (j : Nat) (b : Blk), j ≠ l → k[j]? = some b → b.k ≠ .dead → w'.heap[(ι j).b]? = w.heap[(ι j).b]? := fun j b hjl hj hbk => hoth _ (H.there j b hj hbk) fun g => H.apart l j blk b (Ne.symm hjl) hb hj k1 hbk g.symm
  refine ⟨⟨fun j b hj hbk i u hu => ?_, fun j b hj hbk => ?_, fun j j' b b' hne hj hj' hbk hbk' => ?_, fun j b hj hbk => ?_⟩, { keeps := K, kinds := fun j b b' hj hj' => ?_, fresh := fun j b' hle' hj hbk => ?_, frame := fun b hb' hf => hoth b hb' fun g => hf l blk hb k1 g.symm, size := hsize, os := ho, output := hout, tape := ht }⟩
  · rcases hset j b hj with ⟨rfl, rfl⟩ | ⟨hjl, hj⟩
    · obtain ⟨g1, z, g2, g3⟩ := hcells i u hu
      refine ⟨g1, z, ?_, fun β => (g3 β).cellMono K g1⟩
      rw [z0, Nat.zero_add]
      simp only [World.cell?, hrow]
      exact g2
    · obtain ⟨g1, z, g2, g3⟩ := H.cells j b hj hbk i u hu
      exact ⟨g1, z, by rw [World.cell?_of_block (w := w) (hfar j b hjl hj hbk)]; exact g2, fun β => (g3 β).cellMono K g1⟩
  · rcases hset j b hj with ⟨rfl, rfl⟩ | ⟨hjl, hj⟩
    · exact ⟨z0, by simp only; omega, _, e, hrow, hsz⟩
    · obtain ⟨g1, g2, arr', e', g3, g4⟩ := H.own j b hj hbk
      exact ⟨g1, g2, arr', e', by rw [hfar j b hjl hj (by rw [hbk]; decide)]; exact g3, g4⟩
  · rcases hset j b hj with ⟨rfl, rfl⟩ | ⟨hjl, hg⟩ <;> rcases hset j' b' hj' with ⟨rfl, rfl⟩ | ⟨hjl', hg'⟩
    · exact absurd rfl hne
    · exact H.apart _ _ _ _ hne hb hg' k1 hbk'
    · exact H.apart _ _ _ _ hne hg hb hbk (by rw [k1]; decide)
    · exact H.apart j j' b b' hne hg hg' hbk hbk'
  · refine Nat.lt_of_lt_of_le ?_ hsize
    rcases hset j b hj with ⟨rfl, rfl⟩ | ⟨hjl, hj⟩
    · exact H.there _ _ hb hbk
    · exact H.there j b hj hbk
  · rcases hset j b' hj' with ⟨rfl, rfl⟩ | ⟨hjl, hj'⟩
    · rw [hb] at hj; cases hj; exact .inl rfl
    · rw [hj] at hj'; cases hj'; exact .inl rfl
  · rcases hset j b' hj with ⟨rfl, rfl⟩ | ⟨hjl, hj⟩
    · have := get_len hb; omega
    · have := get_len hj; omega
theorem sort_sound {P : Program} {g : FuncId} (hs : SortSaid P g) : SoundCall P g s_sort_Ints := by
  intro Φ ι σ w args xs Q hΦ H hargs hsem
  have hlen := hargs.1
  unfold s_sort_Ints at hsem
  split at hsem
  · match xs, hlen with
    | [x], _ =>
      have hr := hargs.2 0 _ _ rfl rfl (fun _ => 0)
      obtain ⟨a, rfl⟩ := rel_nils hr
      refine (hs.2 a 0 w).mono ?_
      rintro e w' ⟨rfl, rfl⟩
      exact ⟨_, .undef, σ, ι, rfl, hsem, hΦ, fun β => .undef _, H, .refl _ _ _⟩
  · rename_i l n
    match xs, hlen with
    | [x], _ =>
      have hr := hargs.2 0 _ _ rfl rfl (fun _ => 0)
      obtain ⟨b, zs, hb, hk, hz, hn0, hn, hcs, hQ⟩ := hsem
      have hl : Φ l = none := (noPh_of hr).1 l 0 n rfl
      have hb' : (kill Φ σ)[l]? = some b := by rw [kill_at hl]; exact hb
      obtain ⟨b1, g1, hc⟩ := rel_slice hr
      rw [hb'] at g1; cases g1
      rcases hc with ⟨c, rfl, c1, c2⟩ | ⟨rfl, _⟩
      · obtain ⟨z0, arr, el, harr, hsz, hrc⟩ := H.ownCells hb' hk
        rw [z0, Nat.add_zero]
        have hle : b.cs.length ≤ arr.size := by simpa using hrc.1
        have hcl : n ≤ b.cs.length := by rw [hcs, List.length_append]; simp [intsV]; omega
        have hcell : ∀ j (hj : j < n), arr[j]? = some (.int .i64 (zs[j]'(by omega))) := by
          intro j hj
          have hcj : b.cs[j]? = some (.int .i64 (zs[j]'(by omega))) := by
            rw [hcs, List.getElem?_append_left (by simp [intsV]; omega)]
            simp [intsV, List.getElem?_eq_getElem (show j < zs.length by omega)]
          obtain ⟨_, z, q1, q2⟩ := hrc.2 j _ hcj
          have := rel_int (q2 (fun _ => 0))
          subst this
          simpa using q1
        have hH : Holds (Value.int .i64) w (ι l).b 0 zs.toArray := by
          intro j hj
          have hj : j < n := by simpa [hz] using hj
          refine ⟨?_, ?_⟩
          · simp only [World.cell?, harr, Nat.zero_add, hcell j hj]
            rw [getElem!_pos _ j (by simp; omega)]
            simp
          · simp only [World.frozen?, harr]
            simp
        have hcall := hs.1 (ι l).b 0 c zs w hH (H.there l b hb' (by rw [hk]; decide)) (by omega)
        rw [hz] at hcall
        refine hcall.mono ?_
        rintro e w' ⟨rfl, m, os, rfl⟩
        have hblt := H.there l b hb' (by rw [hk]; decide)
        have hsl := sortL_len zs
        have heap : (grow (putRow (Value.int .i64) (Sort.ahead w m) (ι l).b 0 (sortL zs).toArray) os).heap = w.heap.modify (ι l).b (onCells (putCells (Value.int .i64) 0 (sortL zs).toArray)) ++ os := rfl
        have W := write_row (w' := grow (putRow (Value.int .i64) (Sort.ahead w m) (ι l).b 0 (sortL zs).toArray) os) (cs' := intsV (sortL zs) ++ b.cs.drop n) (arr' := putCells (Value.int .i64) 0 (sortL zs).toArray arr) (e := el) H hb' hk
          (by simp [intsV, hsl]; omega) (by rw [heap]; simp) (fun j hj hne => by
            rw [heap, Array.getElem?_append_left (by simpa using hj), Array.getElem?_modify, if_neg (Ne.symm hne)]) (by
            rw [heap, Array.getElem?_append_left (by simpa using hblt), Array.getElem?_modify, if_pos rfl, harr]; rfl) (by simp [putCells, hsz]) (fun i u hu => by
            have hpi : (putCells (Value.int .i64) 0 (sortL zs).toArray arr)[i]? = (arr[i]?).map fun x => if i < n then .int .i64 ((sortL zs).toArray)[i]! else x := by
              simp [putCells, Array.getElem?_mapIdx, hsl, hz]
            rw [hpi]
            by_cases hi : i < n
            · rw [List.getElem?_append_left (by simp [intsV, hsl]; omega)] at hu
              simp only [intsV, List.getElem?_map, List.getElem?_eq_getElem (show i < (sortL zs).length by omega), Option.map_some, Option.some.injEq] at hu
              subst hu
              refine ⟨rfl, _, by rw [hcell i hi]; rfl, fun β => ?_⟩
              simp only [if_pos hi]
              rw [getElem!_pos _ i (by simp; omega)]
              simpa using Rel.int .i64 _
            · rw [List.getElem?_append_right (by simp [intsV, hsl]; omega)] at hu
              have hu' : b.cs[i]? = some u := by
                rw [List.getElem?_drop] at hu
                rw [← hu]; congr 1; simp [intsV, hsl]; omega
              obtain ⟨q0, z, q1, q2⟩ := hrc.2 i u hu'
              refine ⟨q0, z, ?_, q2⟩
              have : arr[i]? = some z := by simpa using q1
              rw [this, Option.map_some, if_neg hi]) rfl rfl rfl
        refine ⟨_, .undef, _, ι, rfl, hQ, hΦ.set hl _, fun β => .undef _, ?_, ?_⟩
        · rw [kill_set hl]; exact W.1
        · rw [kill_set hl]; exact W.2
      · omega
  · exact hsem.elim
@[irreducible] noncomputable def mg_sort_Ints (x : List (Int)) (m : Int) : (List (Int)) × Int := (shut fun (x : List (Int)) (m : Int) => (sortL x, m)).1 x m
@[irreducible] noncomputable def mok_sort_Ints (x : List (Int)) : Prop := (shut fun (x : List (Int)) => x.length < 4611686018427387904).1 x
theorem mgu_sort_Ints : mg_sort_Ints = fun x m => (sortL x, m) := by unfold mg_sort_Ints; exact (shut _).2
theorem mou_sort_Ints : mok_sort_Ints = fun x => x.length < 4611686018427387904 := by unfold mok_sort_Ints; exact (shut _).2
noncomputable def M_sort_Ints : DMk := ⟨.one (.sl (.one (.int .i64))), false, mok_sort_Ints, mg_sort_Ints, true⟩
def intsP (l : List Int) : List (List PV) := l.map fun n => [.fl (.int .i64 n)]
theorem intsP_flat (l : List Int) : (intsP l).flatten = l.map fun n => .fl (.int .i64 n) := by
  induction l with
  | nil => rfl
  | cons n r ih => simpa [intsP] using ih
theorem intsP_get {l : List Int} {k : Nat} (h : k < l.length) : pget (intsP l).flatten k = .fl (.int .i64 (l[k])) := by
  rw [intsP_flat, pget_eq, List.getElem?_map, List.getElem?_eq_getElem h]; rfl
theorem smk_sort_Ints : SoundM s_sort_Ints (DMk.P M_sort_Ints) := by
  unfold M_sort_Ints
  rw [mou_sort_Ints, mgu_sort_Ints]
  rintro h ω hd P b olds us u m K Q hinj hu hl hr ⟨(x : List Int), rfl, hok, hK⟩ hQ
  have hu : us = [u] := hu
  subst hu
  have hr0 : RC h ω (.inn hd (P ++ [b + 0])) (.sl .own (intsP x)) u := hr 0 (by exact Nat.one_pos)
  have hQ := fun h' hO (hrc : RC h' ω (.inn hd (P ++ [b + 0])) (.sl .own (intsP (sortL x))) u) => hQ _ m h' hK rfl hO fun c hc => by
    have hc : c < 1 := hc
    have : c = 0 := by omega
    subst this
    exact hrc
  show s_sort_Ints [u] h Q
  have hok : x.length < 4611686018427387904 := hok
  have hsl := sortL_len x
  generalize hes : intsP x = es at hr0
  cases hr0 with
  | nil =>
    have : x = [] := by
      cases x with
      | nil => rfl
      | cons => cases hes
    subst this
    have e0 : intsP (sortL []) = [] := by rw [List.eq_nil_of_length_eq_zero hsl]; rfl
    rw [e0] at hQ
    exact hQ h (Only.refl _ _) (.nil _ _)
  | sl _ _ _ l o n blk hb hk hc hne hn hw hle hcell =>
    subst hes
    obtain ⟨hω, rfl, hown⟩ := hc
    have hx : x ≠ [] := fun e => by subst e; exact hne rfl (.inl rfl) rfl
    obtain ⟨y, ys, rfl⟩ := List.exists_cons_of_ne_nil hx
    generalize hzs : y :: ys = zs at *
    have hpos : 0 < zs.length := by rw [← hzs]; simp
    have hlen : (intsP zs).length = zs.length := by simp [intsP]
    have hbw : blk.w = 1 := by
      have := hw [.fl (.int .i64 y)] (by rw [← hzs]; simp [intsP])
      simpa using this.symm
    rw [hlen] at hn hle hcell
    rw [hbw, Nat.mul_one, Nat.zero_add] at hle
    rw [hbw, Nat.mul_one] at hcell
    have hget : ∀ k (hk : k < zs.length), blk.cs[k]? = some (.int .i64 (zs[k])) := by
      intro k hk
      have r := hcell k hk
      rw [Nat.zero_add, intsP_get hk] at r
      have e : get blk.cs k = .int .i64 (zs[k]) := by
        generalize get blk.cs k = z at r
        cases r with
        | v => rfl
      rw [get_eq, List.getElem?_eq_getElem (show k < blk.cs.length by omega)] at e
      rw [List.getElem?_eq_getElem (show k < blk.cs.length by omega)]
      simpa using e
    have hcs : blk.cs = intsV zs ++ blk.cs.drop n := by
      apply List.ext_getElem?
      intro k
      by_cases hk : k < zs.length
      · rw [List.getElem?_append_left (by simp [intsV]; omega), hget k hk]
        simp [intsV, List.getElem?_eq_getElem hk]
      · rw [List.getElem?_append_right (by simp [intsV]; omega), List.getElem?_drop]
        congr 1; simp [intsV]; omega
    have hlt := get_len hb
    have hnl : (intsV (sortL zs) ++ blk.cs.drop n).length = blk.cs.length := by simp [intsV, hsl]; omega
    refine ⟨blk, zs, hb, hown, hn.symm, by omega, by omega, hcs, ?_⟩
    refine hQ _ ⟨by simp, fun j hj => ?_, fun j c hj => ?_⟩ (.sl _ _ _ _ _ _ { blk with cs := intsV (sortL zs) ++ blk.cs.drop n } (by simp [hlt]) hk ⟨hω, rfl, hown⟩ (fun _ _ e => ?_) ?_ ?_ ?_ ?_)
    · rw [List.getElem?_set, if_neg]
      intro e
      subst e
      exact hj ⟨0, intsP zs, [], Nat.one_pos, rfl, by simpa using hω⟩
    · rw [List.getElem?_set]
      by_cases e : l = j
      · subst e
        rw [hb] at hj; cases hj
        exact ⟨{ blk with cs := intsV (sortL zs) ++ blk.cs.drop n }, by simp [hlt], rfl, rfl, hnl⟩
      · exact ⟨c, by rw [if_neg e]; exact hj, rfl, rfl, rfl⟩
    · have := congrArg List.length e
      simp [intsP, hsl] at this
      rw [this] at hpos; simp at hpos
    · rw [hn]; simp [intsP, hsl]
    · intro e he
      simp only [intsP, List.mem_map] at he
      obtain ⟨_, _, rfl⟩ := he
      simp [hbw]
    · simp only [intsP, List.length_map, hsl, hbw, hnl]; omega
    · intro k hk
      simp only [intsP, List.length_map, hsl, hbw, Nat.mul_one] at hk
      have hk' : k < (sortL zs).length := by omega
      rw [Nat.zero_add, intsP_get hk']
      have : get (intsV (sortL zs) ++ blk.cs.drop n) k = .int .i64 ((sortL zs)[k]) := by
        rw [get_eq, List.getElem?_append_left (by simp [intsV]; omega)]
        simp [intsV, List.getElem?_eq_getElem hk']
      simp only [this]
      exact .v _ _ rfl
end Go.Ag
