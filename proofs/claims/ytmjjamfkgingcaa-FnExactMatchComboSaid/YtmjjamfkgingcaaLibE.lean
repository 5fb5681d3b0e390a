/-
  Part 5 of what the law FnExactMatchCombo needs: an abstract semantics proved sound, the program's functions in its form, plain Lean about them. No conditions.
-/
import Derived.WalkKit
import Derived.ProofKit
import Derived.OpenShut
import Derived.Carry
import Derived.ChangeSame
import Derived.KernelRfl
import Derived.Test.YtmjjamfkgingcaaLibD
namespace Go.Ag
set_option linter.unusedSimpArgs false
set_option linter.unusedVariables false
theorem EL.put1 {v : DV} : ∀ {a : List DC} {b : List PV} (n : Nat), EL a b → EV v (pget b n) → EL (dput a n v) b
  | [], _, _, h, _ => h
  | _ :: _, [], _, h, _ => h.elim
  | _ :: _, _ :: _, 0, h, hv => ⟨hv, h.2⟩
  | _ :: _, _ :: _, n + 1, h, hv => ⟨h.1, EL.put1 n h.2 hv⟩
theorem EBx.put1 {v : DV} {a : List DC} {b : List PV} (n : Nat) (h : EBx a b) (hv : EV v (pget b n)) : EBx (dput a n v) b := by
  rcases h with rfl | h
  · exact .inl rfl
  · exact .inr (h.put1 n hv)
theorem EB.put1 {v : List DC} : ∀ {a : List (List DC)} {b : List (List PV)} (n : Nat), EB a b → EBx v (pgetB b n) → EB (dputB a n v) b
  | [], _, _, h, _ => h
  | _ :: _, [], _, h, _ => h.elim
  | _ :: _, _ :: _, 0, h, hv => ⟨hv, h.2⟩
  | _ :: _, _ :: _, n + 1, h, hv => ⟨h.1, EB.put1 n h.2 hv⟩
def PS.at (s : PS) : Pl → PV
  | .s i => pget s.sl i
  | .b i c => pget (pgetB s.bx i) c
  | .h i c => pget (pgetB s.hp i) c
theorem EBx.get {a : List DC} {b : List PV} (n : Nat) (h : EBx a b) : EV (dget a n) (pget b n) := by
  rcases h with rfl | h
  · exact .inl rfl
  · exact h.get n
theorem ES.at {d : DS} {s : PS} (h : ES d s) (pl : Pl) : EV (d.at pl) (s.at pl) := by
  cases pl with
  | s i => exact h.sl.get i
  | b i c => exact (h.bx.get i).get c
  | h i c => exact (h.hp.get i).get c
theorem ES.wr {d : DS} {s : PS} (h : ES d s) (pl : Pl) {v : DV} (hv : EV v (s.at pl)) : ES (d.wr v pl) s := by
  cases pl with
  | s i => exact ⟨h.sl.put1 i hv, h.bx, h.hp⟩
  | b i c => exact ⟨h.sl, h.bx.put1 i ((h.bx.get i).put1 c hv), h.hp⟩
  | h i c => exact ⟨h.sl, h.bx, h.hp.put1 i ((h.hp.get i).put1 c hv)⟩
theorem ct_ofQ {q : Ql} {t : CT} {v : DV} {x : t.D} (h : t.ofQ q v = some x) : (t.dv q x).enc = v.enc ∧ v ≠ .any := by
  cases t with
  | int k =>
    cases v <;> try (cases h; done)
    rename_i k' n
    have h' : (if IntKind.same k k' = true then some n else none) = some x := h
    clear h
    split at h'
    · rename_i hk; have := same_eq hk; subst this
      have h' := Option.some.inj h'
      subst h'
      exact ⟨rfl, by simp⟩
    · cases h'
  | bool =>
    cases v <;> try (cases h; done)
    have h := Option.some.inj h
    subst h; exact ⟨rfl, by simp⟩
  | str =>
    cases v <;> try (cases h; done)
    have h := Option.some.inj h
    subst h; exact ⟨rfl, by simp⟩
  | ifc =>
    cases v <;> try (cases h; done)
    have h := Option.some.inj h
    subst h; exact ⟨rfl, by simp⟩
  | sl r =>
    cases v <;> try (cases h; done)
    case nil q' =>
      have h' : (if qeq q q' = true then some ([] : List r.D) else none) = some x := h
      clear h
      split at h'
      · rename_i hq; have := qeq_eq hq; subst this
        have h' := Option.some.inj h'
        subst h'; exact ⟨rfl, by simp⟩
      · cases h'
    case sl q' r' l =>
      have h' : (if qeq q q' = true then castL (r' := r') (r := r) l else none) = some x := h
      clear h
      split at h'
      · rename_i hq; have := qeq_eq hq; subst this
        refine ⟨?_, by simp⟩
        show PV.sl q _ = PV.sl q _
        rw [(castL_eq h').2]
      · cases h'
theorem ag_of : ∀ {l : List (Ql × CT)} {vs : List DV} {x : AgX l}, agOf l vs = some x → DV.encL (agDv l x) = DV.encL vs
  | [], [], _, _ => rfl
  | [a], [v], x, h => by
    show [(a.2.dv a.1 x).enc] = [v.enc]
    rw [(ct_ofQ (q := a.1) (t := a.2) h).1]
  | a :: b :: r, v :: vs, x, h => by
    have h' : (match a.2.ofQ a.1 v, agOf (b :: r) vs with | some x, some y => some (x, y) | _, _ => none) = some x := h
    clear h
    cases h1 : a.2.ofQ a.1 v with
    | none => rw [h1] at h'; cases h'
    | some p =>
      cases h2 : agOf (b :: r) vs with
      | none => rw [h1, h2] at h'; cases h'
      | some q =>
        rw [h1, h2] at h'
        have h' := Option.some.inj h'
        subst h'
        show (a.2.dv a.1 p).enc :: DV.encL (agDv (b :: r) q) = v.enc :: DV.encL vs
        rw [(ct_ofQ h1).1, ag_of h2]
theorem ht_of {t : HT} {v : DV} {x : t.D} (h : t.of v = some x) : (t.dv x).enc = v.enc ∧ v ≠ .any := by
  cases t with
  | one q t => exact ct_ofQ (q := q) (t := t) h
  | agg l =>
    cases v <;> try (cases h; done)
    rename_i cs
    refine ⟨?_, by simp⟩
    show PV.agg _ = PV.agg _
    rw [ag_of (l := l) h]
theorem wr_rd {A : DS} {s : PS} (hA : ES A s) : ∀ (H : List Hole) {K : DS} {x : HoX H}, ES K s → rdX A H = some x → ES (wrX K H x) s
  | [], K, x, hK, _ => hK
  | [a], K, x, hK, h => by
    have h : a.t.of (A.at a.pl) = some x := h
    obtain ⟨h1, h2⟩ := ht_of h
    refine hK.wr a.pl (.inr ?_)
    rw [h1, (hA.at a.pl).of h2]
  | a :: b :: r, K, x, hK, h => by
    have h' : (match a.t.of (A.at a.pl), rdX A (b :: r) with | some x, some y => some (x, y) | _, _ => none) = some x := h
    clear h
    cases h1 : a.t.of (A.at a.pl) with
    | none => rw [h1] at h'; cases h'
    | some p =>
      cases h2 : rdX A (b :: r) with
      | none => rw [h1, h2] at h'; cases h'
      | some q =>
        rw [h1, h2] at h'
        have h' := Option.some.inj h'
        subst h'
        obtain ⟨h3, h4⟩ := ht_of h1
        refine wr_rd hA (b :: r) (x := q) (hK.wr a.pl (.inr ?_)) h2
        rw [h3, (hA.at a.pl).of h4]
theorem wr_chg (d : DS) (v : DV) (pl : Pl) : ChgS d (d.wr v pl) := by
  cases pl with
  | s i => exact ⟨Chg.put _ _ _, ChgB.refl _, ChgB.refl _⟩
  | b i c => exact ⟨Chg.refl _, ChgB.put _ _ (Chg.put _ _ _), ChgB.refl _⟩
  | h i c => exact ⟨Chg.refl _, ChgB.refl _, ChgB.put _ _ (Chg.put _ _ _)⟩
theorem wrX_chg : ∀ (H : List Hole) (d : DS) (x : HoX H), ChgS d (wrX d H x)
  | [], d, _ => ChgS.refl d
  | [a], d, _ => wr_chg d _ _
  | a :: b :: r, d, x => (wr_chg d _ _).trans (wrX_chg (b :: r) _ _)
def LeC : List DC → List DC → Prop
  | [], [] => True
  | k :: a, b :: r => (k.v = .any ∨ k.v = b.v) ∧ LeC a r
  | _, _ => False
def LeB : List (List DC) → List (List DC) → Prop
  | [], [] => True
  | k :: a, b :: r => (k = [] ∨ LeC k b) ∧ LeB a r
  | _, _ => False
structure LeS (k b : DS) : Prop where
  sl : LeC k.sl b.sl
  bx : LeB k.bx b.bx
  hp : LeB k.hp b.hp
theorem LeC.refl : ∀ (k : List DC), LeC k k
  | [] => trivial
  | _ :: r => ⟨.inr rfl, LeC.refl r⟩
theorem LeB.refl : ∀ (k : List (List DC)), LeB k k
  | [] => trivial
  | k :: r => ⟨.inr (LeC.refl k), LeB.refl r⟩
theorem LeC.put {v : DV} : ∀ {k b : List DC} (n : Nat), LeC k b → dget k n = .any → LeC k (dput b n v)
  | [], [], _, h, _ => h
  | [], _ :: _, _, h, _ => h.elim
  | _ :: _, [], _, h, _ => h.elim
  | _ :: _, _ :: _, 0, h, ha => ⟨.inl ha, h.2⟩
  | _ :: _, _ :: _, n + 1, h, ha => ⟨h.1, LeC.put n h.2 ha⟩
theorem LeB.put {v : DV} : ∀ {k b : List (List DC)} (i c : Nat), LeB k b → dget (dgetB k i) c = .any → LeB k (dputB b i (dput (dgetB b i) c v))
  | [], [], _, _, h, _ => h
  | [], _ :: _, _, _, h, _ => h.elim
  | _ :: _, [], _, _, h, _ => h.elim
  | _ :: _, _ :: _, 0, c, h, ha => ⟨h.1.imp id fun h => h.put c ha, h.2⟩
  | _ :: _, _ :: _, n + 1, c, h, ha => ⟨h.1, LeB.put n c h.2 ha⟩
theorem isAny_eq {v : DV} (h : v.isAny = true) : v = .any := by cases v <;> first | rfl | cases h
theorem LeS.wr {k b : DS} {v : DV} {pl : Pl} (h : LeS k b) (ha : (k.at pl).isAny = true) : LeS k (b.wr v pl) := by
  have ha := isAny_eq ha
  cases pl with
  | s i => exact ⟨h.sl.put i ha, h.bx, h.hp⟩
  | b i c => exact ⟨h.sl, h.bx.put i c ha, h.hp⟩
  | h i c => exact ⟨h.sl, h.bx, h.hp.put i c ha⟩
theorem LeS.wrX {k : DS} : ∀ (H : List Hole) {b : DS} (x : HoX H), LeS k b → holesAny k H = true → LeS k (Go.Ag.wrX b H x)
  | [], _, _, h, _ => h
  | [a], _, _, h, ha => by
    simp only [holesAny, Bool.and_eq_true] at ha
    exact h.wr ha.1
  | a :: b :: r, _, x, h, ha => by
    have ha' : (k.at a.pl).isAny = true ∧ holesAny k (b :: r) = true := by
      have : ((k.at a.pl).isAny && holesAny k (b :: r)) = true := ha
      simpa [Bool.and_eq_true] using this
    exact LeS.wrX (b :: r) _ (h.wr ha'.1) ha'.2
theorem same_enc {a b : DV} (h : a.same b = true) : a.enc = b.enc ∧ b ≠ .any := by
  cases a <;> cases b <;> first | (cases h; done) | skip
  case undef.undef => exact ⟨rfl, by simp⟩
  case nil.nil q q' => have := qeq_eq h; subst this; exact ⟨rfl, by simp⟩
  case box.box => simp only [DV.same, Bool.and_eq_true, beq_iff_eq] at h; obtain ⟨rfl, rfl⟩ := h; exact ⟨rfl, by simp⟩
  case ptr.ptr => simp only [DV.same, Bool.and_eq_true, beq_iff_eq] at h; obtain ⟨rfl, rfl⟩ := h; exact ⟨rfl, by simp⟩
theorem fitC_s : ∀ {k b y : List DC} {p : List PV}, fitC k y = true → LeC k b → Chg (Go.Ag.clean b) y → EL y p → EL k p
  | [], _, [], p, _, _, _, h => h
  | [], _, _ :: _, _, h, _, _, _ => by cases h
  | _ :: _, _, [], _, h, _, _, _ => by cases h
  | _ :: _, [], _ :: _, _, _, h, _, _ => h.elim
  | _ :: _, _ :: _, _ :: _, [], _, _, _, h => h.elim
  | k :: a, b :: r, y :: l, q :: p, h, hl, hc, he => by
    simp only [fitC, Bool.and_eq_true, Bool.or_eq_true] at h
    refine ⟨?_, fitC_s h.2 hl.2 hc.2 he.2⟩
    rcases h.1 with (h1 | h1) | h1
    · exact .inl (isAny_eq h1)
    · rcases hl.1 with h2 | h2
      · exact .inl h2
      · rcases hc.1 with h3 | h3
        · simp [h3] at h1
        · have : y.v = k.v := by rw [h3, h2]
          rcases he.1 with h4 | h4
          · exact .inl (by rw [← this]; exact h4)
          · exact .inr (by rw [← this]; exact h4)
    · obtain ⟨h2, h3⟩ := same_enc h1
      rcases he.1 with h4 | h4
      · exact absurd h4 h3
      · exact .inr (by rw [h2]; exact h4)
theorem fitB_s : ∀ {k b y : List (List DC)} {p : List (List PV)}, fitB k y = true → LeB k b → ChgB (cleanB b) y → EB y p → EB k p
  | [], _, [], p, _, _, _, h => h
  | [], _, _ :: _, _, h, _, _, _ => by cases h
  | _ :: _, _, [], _, h, _, _, _ => by cases h
  | _ :: _, [], _ :: _, _, _, h, _, _ => h.elim
  | _ :: _, _ :: _, _ :: _, [], _, _, _, h => h.elim
  | k :: a, b :: r, y :: l, q :: p, h, hl, hc, he => by
    simp only [fitB, Bool.and_eq_true, Bool.or_eq_true, beq_iff_eq] at h
    refine ⟨?_, fitB_s h.2 hl.2 hc.2 he.2⟩
    rcases h.1 with h1 | h1
    · exact .inl (List.eq_nil_of_length_eq_zero h1)
    · rcases hl.1 with h2 | h2
      · exact .inl h2
      · rcases he.1 with h3 | h3
        · subst h3
          cases k with
          | nil => exact .inl rfl
          | cons => cases h1
        · exact .inr (fitC_s h1 h2 hc.1 h3)
theorem fitS_s {k b y : DS} {s : PS} (h : fitS k y = true) (hl : LeS k b) (hc : ChgS b.clean y) (he : ES y s) : ES k s := by
  simp only [fitS, Bool.and_eq_true] at h
  exact ⟨fitC_s h.1.1 hl.sl hc.sl he.sl, fitB_s h.1.2 hl.bx hc.bx he.bx, fitB_s h.2 hl.hp hc.hp he.hp⟩
theorem clsL_s (pl : Nat → Pl) : ∀ (n : Nat) (x y : List DC), Chg x (clsL pl n x y).2 ∧ ∀ p, EL x p → EL (clsL pl n x y).2 p
  | _, [], _ => ⟨trivial, fun _ h => h⟩
  | _, _ :: _, [] => ⟨Chg.refl _, fun _ h => h⟩
  | n, x :: a, y :: b => by
    obtain ⟨h1, h2⟩ := clsL_s pl (n + 1) a b
    simp only [clsL]
    cases hr : clsL pl (n + 1) a b with
    | mk H l =>
      rw [hr] at h1 h2
      cases cls x.v y with
      | left => exact ⟨⟨.inr rfl, h1⟩, fun p h => by cases p with | nil => exact h | cons q p => exact ⟨h.1, h2 p h.2⟩⟩
      | hole t => exact ⟨⟨.inl rfl, h1⟩, fun p h => by cases p with | nil => exact h | cons q p => exact ⟨.inl rfl, h2 p h.2⟩⟩
      | kill => exact ⟨⟨.inl rfl, h1⟩, fun p h => by cases p with | nil => exact h | cons q p => exact ⟨.inl rfl, h2 p h.2⟩⟩
theorem clsB_s (pl : Nat → Nat → Pl) : ∀ (n : Nat) (x y : List (List DC)), ChgB x (clsB pl n x y).2 ∧ ∀ p, EB x p → EB (clsB pl n x y).2 p
  | _, [], _ => ⟨trivial, fun _ h => h⟩
  | _, _ :: _, [] => ⟨ChgB.refl _, fun _ h => h⟩
  | n, x :: a, y :: b => by
    obtain ⟨h1, h2⟩ := clsB_s pl (n + 1) a b
    simp only [clsB]
    cases hr : clsB pl (n + 1) a b with
    | mk H l =>
      rw [hr] at h1 h2
      simp only
      split
      · obtain ⟨h3, h4⟩ := clsL_s (pl n) 0 x y
        cases hc : clsL (pl n) 0 x y with
        | mk H' x' =>
          rw [hc] at h3 h4
          exact ⟨⟨h3, h1⟩, fun p h => by
            cases p with
            | nil => exact h
            | cons q p => exact ⟨h.1.elim (fun e => by subst e; cases y <;> (simp only [clsL] at hc; simp only [Prod.mk.injEq] at hc; exact .inl hc.2.symm)) fun h => .inr (h4 q h), h2 p h.2⟩⟩
      · exact ⟨⟨by cases x <;> trivial, h1⟩, fun p h => by cases p with | nil => exact h | cons q p => exact ⟨.inl rfl, h2 p h.2⟩⟩
theorem clsS_s (x y : DS) : ChgS x (clsS x y).2 ∧ ∀ s, ES x s → ES (clsS x y).2 s := by
  obtain ⟨h1, h2⟩ := clsL_s .s 0 x.sl y.sl
  obtain ⟨h3, h4⟩ := clsB_s .b 0 x.bx y.bx
  obtain ⟨h5, h6⟩ := clsB_s .h 0 x.hp y.hp
  exact ⟨⟨h1, h3, h5⟩, fun s h => ⟨h2 _ h.sl, h4 _ h.bx, h6 _ h.hp⟩⟩
theorem dhead_s {live : List Nat} {body : DS → DT} {A : DS} : ∀ {n : Nat} {cur : DS} {H : List Hole} {K : DS}, dhead live body A n cur = some (H, K) → ∃ Y, clsS A Y = (H, K)
  | 0, cur, H, K, h => by
    simp only [dhead] at h
    split at h
    · rename_i m _
      exact ⟨_, Option.some.inj h⟩
    · cases h
  | n + 1, cur, H, K, h => by
    simp only [dhead] at h
    split at h
    · split at h
      · exact dhead_s h
      · cases h
    · cases h
theorem keepS_chg (live : List Nat) (d : DS) : ChgS d (keepS live d) := ⟨Chg.keep _ _ _, ChgB.refl _, ChgB.refl _⟩
theorem trimS_chg (live : List Nat) (d : DS) : ChgS d (trimS live d) := ⟨Chg.trim _ _ _, ChgB.refl _, ChgB.refl _⟩
theorem dloop_s {live : List Nat} {n : Nat} {body : DS → DT} {pb : PKont → PS → Prop} (hall : ∀ d, (body d).All (ChgS d.clean))
    (hb : ∀ d s e d' (k : PKont), ES d s → (body d).ok.den → (body d).lf = some (e, d') → (∀ s', ES d' s' → k e s') → pb k s)
    {d d' : DS} {s : PS} {e : AExit} {k : PKont} (hs : ES d s) (hok : (dloop live n body d).ok.den) (hl : (dloop live n body d).lf = some (e, d')) (hk : ∀ s', ES d' s' → k e s') : ∃ n, piter pb live k n s := by
  have hA : ES (keepS live d) { s with sl := pkeep live 0 s.sl } := hs.keep live
  unfold dloop at hok hl
  split at hok
  · rename_i hn
    rw [if_pos hn] at hl
    rw [DT.map_ok] at hok
    rw [DT.map_lf] at hl
    obtain ⟨e0, d0, h0⟩ := DT.ok_lf hok
    rw [h0] at hl
    simp only [Option.map_some, Option.some.injEq, Prod.mk.injEq] at hl
    obtain ⟨rfl, rfl⟩ := hl
    have hn : (body (keepS live d)).norm = .none := by cases h : (body (keepS live d)).norm <;> rw [h] at hn <;> first | rfl | cases hn
    have he := DT.norm_none hn h0
    refine ⟨1, hb _ _ _ _ _ hA hok h0 fun s' hs' => ?_⟩
    cases e0 <;> first | (cases he; done) | exact hk _ hs'.rem
  · rename_i hn
    rw [if_neg hn] at hl
    split at hok
    · exact hok.elim
    · rename_i H K hd
      rw [hd] at hl
      simp only at hl
      obtain ⟨Y, hY⟩ := dhead_s hd
      split at hok
      · exact hok.elim
      · rename_i x0 hx0
        rw [hx0] at hl
        simp only at hl
        split at hok
        · rename_i hh
          rw [if_pos hh] at hl
          simp only [DT.ok, PX.land_den, PX.den] at hok
          obtain ⟨hlo, _⟩ := hok
          simp only [DT.lf] at hl
          have hK : ES K { s with sl := pkeep live 0 s.sl } := by
            have := (clsS_s (keepS live d) Y).2 _ hA
            rw [hY] at this; exact this
          have h0 : ES (wrX K H x0) { s with sl := pkeep live 0 s.sl } := wr_rd hA H hK hx0
          have hto := hlo.to
          have hle : ∀ x, LeS K (wrX K H x) := fun x => LeS.wrX H x ⟨LeC.refl _, LeB.refl _, LeB.refl _⟩ hh
          have main : ∀ {x y : HoX H}, LoopTo (lcond body K H) (lnext live body K H) (fun x => (lgood live body K H x).den) x y →
              ((lT body K H y).drop.map (remS (wrX K H y))).lf = some (e, d') →
              ∃ n, ∀ s : PS, ES (wrX K H x) { s with sl := pkeep live 0 s.sl } → piter pb live k n s := by
            intro x y h
            induction h with
            | stop hg hc =>
              rename_i x
              intro hl
              have hg := ((PX.land_den _ _).mp hg).1
              obtain ⟨e0, d0, h0⟩ := DT.ok_lf hg
              have he : e0.isN = false := by
                unfold lcond at hc
                cases hcc : (lT body K H x).cont with
                | none => rw [DT.cont_none hcc] at h0; cases h0
                | some b => rw [hcc] at hc; rw [← DT.cont_s hcc h0]; exact hc
              rw [DT.map_lf, DT.drop_lf h0 he] at hl
              simp only [Option.map_some, Option.some.injEq, Prod.mk.injEq] at hl
              obtain ⟨rfl, rfl⟩ := hl
              refine ⟨1, fun s hs => hb _ _ _ _ _ hs hg h0 fun s' hs' => ?_⟩
              cases e0 <;> first | (cases he; done) | exact hk _ hs'.rem
            | go hg hc h3 ih =>
              rename_i x y'
              intro hl
              obtain ⟨n, ih⟩ := ih hl
              have hg2 := (PX.land_den _ _).mp hg
              obtain ⟨e0, d0, h0⟩ := DT.ok_lf hg2.1
              have he : e0 = .normal := by
                unfold lcond at hc
                cases hcc : (lT body K H x).cont with
                | none => rw [DT.cont_none hcc] at h0; cases h0
                | some b =>
                  rw [hcc] at hc
                  have := DT.cont_s hcc h0
                  rw [show b.b = true from hc] at this
                  cases e0 <;> first | rfl | cases this
              subst he
              refine ⟨n + 1, fun s hs => hb _ _ _ _ _ hs hg2.1 h0 fun s' hs' => ?_⟩
              refine ih s' ?_
              have hg3 := hg2.2
              cases hnm : (lT body K H x).norm with
              | none => have := DT.norm_none hnm h0; cases this
              | fail => rw [hnm] at hg3; exact hg3.elim
              | some m =>
                rw [hnm] at hg3
                simp only at hg3
                split at hg3
                · rename_i hf
                  simp only [Bool.and_eq_true] at hf
                  obtain ⟨hf1, hf2⟩ := hf
                  have hm : ES m s' := DT.norm_s (hall _) hnm h0 hs'
                  have hm2 := hm.keep live
                  have hch : ChgS (wrX K H x).clean (keepS live m) := (DT.norm_chg (hall _) hnm).trans (keepS_chg live m)
                  have hK' := fitS_s hf1 (hle x) hch hm2
                  obtain ⟨y2, hy2⟩ := Option.isSome_iff_exists.mp hf2
                  have hnx : lnext live body K H x = y2 := by unfold lnext; rw [hnm]; simp only [hy2]
                  rw [hnx]
                  exact wr_rd hm2 H hK' hy2
                · exact hg3.elim
          obtain ⟨n, hn⟩ := main hto hl
          exact ⟨n, hn s h0⟩
        · exact hok.elim
theorem dloop_all {live : List Nat} {n : Nat} {body : DS → DT} (hall : ∀ d, (body d).All (ChgS d.clean)) (d : DS) : (dloop live n body d).All (ChgS d) := by
  unfold dloop
  split
  · exact DT.map_all (fun st h => (keepS_chg live d).trans h.rem) (hall _)
  · split
    · trivial
    · rename_i H K hd
      obtain ⟨Y, hY⟩ := dhead_s hd
      split
      · trivial
      · split
        · have hK : ChgS d K := by
            have := (clsS_s (keepS live d) Y).1
            rw [hY] at this; exact (keepS_chg live d).trans this
          exact DT.map_all (fun st h => (hK.trans (wrX_chg H K _)).trans h.rem) (DT.drop_all (hall _))
        · trivial
theorem setc_chg (d : DS) (c : Opnd) (t : Bool) : ChgS d (setc d c t) := by
  cases c with
  | t g => exact setg_chg d g t
  | c v => exact ChgS.refl d
theorem setc_ES {d : DS} {s : PS} {c : Opnd} {b : Bool} (hs : ES d s) (h : c.pev s.sl = .fl (.bool b)) : ES (setc d c b) s := by
  cases c with
  | t g => exact setg_ES hs h
  | c v => exact hs
theorem dev_all : ∀ (c : DCode) (d : DS), (dev c d).All (ChgS d)
  | .skip, d => ChgS.refl d
  | .region ops, d => dops_all ops d (ChgS.refl d)
  | .seq l a b, d => by
    refine DT.then_all (dev_all a d.clean) (fun st h => ?_) (fun st h => h.rem)
    have h1 : ChgS d (remS d (trimS l st)) := (h.trans (trimS_chg l st)).rem
    exact DT.All.imp (fun _ h2 => h1.trans h2) (dev_all b _)
  | .cond c a b, d => by
    simp only [dev]
    cases hc : c.dev d.sl with
    | bool t =>
      cases t with
      | lit t => cases t <;> first | exact dev_all a d | exact dev_all b d
      | dyn t => exact ⟨DT.All.imp (fun _ h => (setc_chg d c true).trans h) (dev_all a _), DT.All.imp (fun _ h => (setc_chg d c false).trans h) (dev_all b _)⟩
    | _ => trivial
  | .block i a, d => DT.unexit_all i (dev_all a d)
  | .loop live n a, d => dloop_all (fun d => dev_all a d.clean) d
  | .exit i, d => ChgS.refl d
  | .ret, d => ChgS.refl d
theorem dev_s : ∀ (c : DCode), AllD c.obs → ∀ {d d' : DS} {s : PS} {e : AExit} {k : PKont}, ES d s → (dev c d).ok.den → (dev c d).lf = some (e, d') → (∀ s', ES d' s' → k e s') → pwp c.er k s
  | .skip, _, d, d', s, e, k, hs, hok, hl, hk => by
    simp only [dev, DT.lf, Option.some.injEq, Prod.mk.injEq] at hl
    obtain ⟨rfl, rfl⟩ := hl
    exact hk s hs
  | .region ops, ho, d, d', s, e, k, hs, hok, hl, hk => by
    have he := dops_n ops hl
    subst he
    exact dops_s ops ho rfl hk d s hs hok hl
  | .seq l a b, ho, d, d', s, e, k, hs, hok, hl, hk => by
    obtain ⟨h1, h2⟩ := ho.app
    obtain ⟨hoa, hc⟩ := DT.then_s (dev_all a d.clean) hok hl
    simp only [DCode.er, pwp]
    rcases hc with ⟨st0, m, hla, hm, hch, hob, hlb⟩ | ⟨he, st0, hla, rfl⟩
    · refine dev_s a h1 hs.clean hoa hla fun s' hs' => ?_
      exact dev_s b h2 (((hm s' hs').trim l).rem) hob hlb hk
    · refine dev_s a h1 hs.clean hoa hla fun s' hs' => ?_
      cases e <;> first | (cases he; done) | exact hk s' hs'.rem
  | .cond c a b, ho, d, d', s, e, k, hs, hok, hl, hk => by
    obtain ⟨h1, h2⟩ := ho.app
    have hv := c.dev_ev hs
    simp only [dev] at hok hl
    simp only [DCode.er, pwp]
    cases hc : c.dev d.sl with
    | bool t =>
      rw [hc] at hok hl hv
      have hp := hv.of (by simp)
      simp only [DV.enc] at hp
      rw [hp]
      simp only
      cases t with
      | lit t =>
        cases t with
        | true => exact dev_s a h1 hs hok hl hk
        | false => exact dev_s b h2 hs hok hl hk
      | dyn t =>
        have hok := (PX.if_den _ _ _).mp hok
        cases t with
        | true => exact dev_s a h1 (setc_ES hs hp) (hok.1 rfl) hl hk
        | false => exact dev_s b h2 (setc_ES hs hp) (hok.2 rfl) hl hk
    | _ => rw [hc] at hok; exact hok.elim
  | .block i a, ho, d, d', s, e, k, hs, hok, hl, hk => by
    simp only [dev, DT.unexit_ok, DT.unexit_lf] at hok hl
    obtain ⟨e0, d0, h0⟩ := DT.ok_lf hok
    rw [h0] at hl
    simp only [Option.map_some, Option.some.injEq, Prod.mk.injEq] at hl
    obtain ⟨rfl, rfl⟩ := hl
    refine dev_s a ho hs hok h0 fun s' hs' => ?_
    have := hk s' hs'
    cases e0 with
    | normal => exact this
    | ret => exact this
    | exit j =>
      simp only [pblockK]
      simp only [AExit.un] at this
      split
      · rename_i hj; rw [if_pos hj] at this; exact this
      · rename_i hj; rw [if_neg hj] at this; exact this
  | .loop live n a, ho, d, d', s, e, k, hs, hok, hl, hk => by
    simp only [dev] at hok hl
    exact dloop_s (fun d => dev_all a d.clean) (fun d s e d' k hs hok hl hk => dev_s a ho hs.clean hok hl hk) hs hok hl hk
  | .exit i, _, d, d', s, e, k, hs, hok, hl, hk => by
    simp only [dev, DT.lf, Option.some.injEq, Prod.mk.injEq] at hl
    obtain ⟨rfl, rfl⟩ := hl
    exact hk s hs
  | .ret, _, d, d', s, e, k, hs, hok, hl, hk => by
    simp only [dev, DT.lf, Option.some.injEq, Prod.mk.injEq] at hl
    obtain ⟨rfl, rfl⟩ := hl
    exact hk s hs
mutual
def DV.flt : DV → Bool
  | .bool _ | .int _ _ | .str _ | .ifc _ => true
  | .agg cs => DV.fltL cs
  | .tup vs => DV.fltL vs
  | _ => false
def DV.fltL : List DV → Bool
  | [] => true
  | v :: r => v.flt && DV.fltL r
end
mutual
theorem flt_enc : ∀ (v : DV), v.flt = true → v.enc.flt = true
  | .bool _, _ | .int _ _, _ | .str _, _ | .ifc _, _ => rfl
  | .agg cs, h => fltL_enc cs h
  | .tup cs, h => fltL_enc cs h
theorem fltL_enc : ∀ (l : List DV), DV.fltL l = true → PV.fltL (DV.encL l) = true
  | [], _ => rfl
  | v :: r, h => by
    simp only [DV.fltL, Bool.and_eq_true] at h
    simp only [DV.encL, PV.fltL, flt_enc v h.1, fltL_enc r h.2, Bool.and_self]
end
theorem retL_okL : ∀ (l : List DV), dretL l = true → DV.okL l = true
  | [], _ => rfl
  | v :: r, h => by
    simp only [dretL, Bool.and_eq_true] at h
    have : v.ok = true := by cases v <;> first | rfl | (have := h.1; cases this)
    simp only [DV.okL, this, retL_okL r h.2, Bool.and_self]
theorem EBx.segm2 {a : List DC} {b : List PV} {o n : Nat} (h : EBx a b) (hl : o + n ≤ a.length) (hk : DV.okL (vsegm (vals a) o n) = true) : Go.Ag.segm b o n = DV.encL (vsegm (vals a) o n) ∧ o + n ≤ b.length := by
  rcases h with rfl | h
  · simp only [List.length_nil, Nat.le_zero_eq, Nat.add_eq_zero_iff] at hl
    obtain ⟨rfl, rfl⟩ := hl
    refine ⟨?_, Nat.zero_le _⟩
    cases b <;> rfl
  · exact ⟨h.segm o n hk, by rw [← h.len]; exact hl⟩
theorem dresOf_s {st st' : DS} {s : PS} {r : ARes} {v : DV} (hs : ES st s) (h : dresOf st r = some (v, st')) (hv : v.ok = true) : ∃ s', presOf s r = some (v.enc, s') ∧ ES st' s' := by
  cases r with
  | tmp t =>
    simp only [dresOf] at h
    split at h
    · rename_i hc
      simp only [Bool.and_eq_true] at hc
      simp only [Option.some.injEq] at h
      have hk : (dmvOut (.t t) st).1.ok = true := by
        have : (dmvOut (.t t) st).1 = v := by simp only [dmvOut, h]
        rw [this]; exact hv
      obtain ⟨m1, m2⟩ := mvOut_sound (.t t) hs hk
      have hne : dget st.sl t ≠ .any := by intro e; rw [e] at hc; cases hc.2
      have hp := (hs.sl.get t).of hne
      simp only [dmvOut, h, mvOut] at m1 m2
      refine ⟨(mvS (pget s.sl t) t s).2, ?_, m2⟩
      simp only [presOf]
      rw [if_pos (by rw [hp]; exact retok_enc _ hc.1), ← m1]
    · cases h
  | cell t n =>
    simp only [dresOf] at h
    have hp := hs.sl.get t
    cases hv : dget st.sl t with
    | box i o =>
      rw [hv] at h hp
      have hp := hp.of (by simp)
      simp only at h
      split at h
      · rename_i hc
        simp only [Bool.and_eq_true] at hc
        simp only [Option.map_eq_some_iff] at h
        obtain ⟨⟨g, r⟩, h1, h2⟩ := h
        simp only at h2
        subst h2
        obtain ⟨e1, e2⟩ := (hs.bx.get i).segm2 (Nat.le_of_ble_eq_true hc.1) (retL_okL _ hc.2)
        have hg : g = .tt := by
          unfold dloadB at h1
          simp only [if_true] at h1
          split at h1
          · simp only [Option.map_eq_some_iff, Prod.mk.injEq] at h1
            obtain ⟨_, _, rfl, _⟩ := h1; rfl
          · cases h1
        subst hg
        obtain ⟨s', e3, e4⟩ := dloadB_sound (p := .box i o) hs (.inr rfl) h1
        refine ⟨s', ?_, e4⟩
        simp only [presOf, hp, DV.enc]
        rw [if_pos ⟨e2, by rw [e1]; exact retL_enc _ hc.2⟩]
        exact e3
      · cases h
    | ptr i o =>
      rw [hv] at h hp
      have hp := hp.of (by simp)
      simp only at h
      split at h
      · rename_i hc
        simp only [Bool.and_eq_true] at hc
        simp only [Option.map_eq_some_iff] at h
        obtain ⟨⟨g, r⟩, h1, h2⟩ := h
        simp only at h2
        subst h2
        obtain ⟨e1, e2⟩ := (hs.hp.get i).segm2 (Nat.le_of_ble_eq_true hc.1) (retL_okL _ hc.2)
        have hg : g = .tt ∧ i < st.hp.length := by
          unfold dloadH at h1
          simp only [if_true] at h1
          split at h1
          · rename_i hb
            simp only [Bool.and_eq_true] at hb
            simp only [Option.map_eq_some_iff, Prod.mk.injEq] at h1
            obtain ⟨_, _, rfl, _⟩ := h1
            exact ⟨rfl, Nat.le_of_ble_eq_true hb.1.1⟩
          · cases h1
        obtain ⟨rfl, hi⟩ := hg
        obtain ⟨s', e3, e4⟩ := dloadH_sound (p := .ptr i o) hs (.inr rfl) h1 trivial
        refine ⟨s', ?_, e4⟩
        simp only [presOf, hp, DV.enc]
        rw [if_pos ⟨by rw [← hs.hp.len]; exact hi, e2, by rw [e1]; exact retL_enc _ hc.2⟩]
        exact e3
      · cases h
    | _ => rw [hv] at h; cases h
theorem dresAll_s : ∀ {res : List ARes} {st st' : DS} {s : PS} {vs : List DV}, ES st s → dresAll st res = some (vs, st') → DV.okL vs = true → ∃ s', presAll s res = some (DV.encL vs, s') ∧ ES st' s'
  | [], st, st', s, vs, hs, h, _ => by
    simp only [dresAll, Option.some.injEq, Prod.mk.injEq] at h
    obtain ⟨rfl, rfl⟩ := h
    exact ⟨s, rfl, hs⟩
  | r :: rs, st, st', s, vs, hs, h, hk => by
    simp only [dresAll] at h
    split at h
    · rename_i v st1 h1
      split at h
      · rename_i vs1 st2 h2
        simp only [Option.some.injEq, Prod.mk.injEq] at h
        obtain ⟨rfl, rfl⟩ := h
        simp only [DV.okL, Bool.and_eq_true] at hk
        obtain ⟨s1, e1, e2⟩ := dresOf_s hs h1 hk.1
        obtain ⟨s2, e3, e4⟩ := dresAll_s e2 h2 hk.2
        exact ⟨s2, by simp only [presAll, e1, e3, DV.encL], e4⟩
      · cases h
    · cases h
theorem dresV_s : ∀ {res : List ARes} {st : DS} {s : PS} {v : DV}, ES st s → dresV st res = some v → v.ok = true → ∃ s', presV s res = some (v.enc, s') := by
  have gen : ∀ {res : List ARes} {st : DS} {s : PS} {v : DV}, ES st s → v.ok = true → (dresAll st res).map (fun x => DV.tup x.1) = some v → ∃ s', (presAll s res).map (fun (vs, st) => (PV.tup vs, st)) = some (v.enc, s') := fun hs hv h => by
    simp only [Option.map_eq_some_iff] at h
    obtain ⟨⟨vs, st'⟩, h1, rfl⟩ := h
    obtain ⟨s', e1, _⟩ := dresAll_s hs h1 hv
    exact ⟨s', by rw [e1]; rfl⟩
  intro res st s v hs h hv
  cases res with
  | nil => exact gen (res := []) hs hv h
  | cons r rs =>
    cases rs with
    | nil =>
      simp only [dresV, Option.map_eq_some_iff] at h
      obtain ⟨⟨v', st'⟩, h1, rfl⟩ := h
      obtain ⟨s', e1, _⟩ := dresOf_s hs h1 hv
      exact ⟨s', e1⟩
    | cons r2 rs => exact gen (res := r :: r2 :: rs) hs hv h
theorem val_s {res : List ARes} : ∀ {t : DT} {g : PX} {v : DV}, t.val res = (g, some v) → v ≠ .any → g.den →
    t.ok.den ∧ ∃ e st v0, t.lf = some (e, st) ∧ (∀ i, e ≠ .exit i) ∧ dresV st res = some v0 ∧ v0.ok = true ∧ v.enc = v0.enc
  | .leaf e st, g, v, h, hv, hg => by
    have gen : (match dresV st res with | some v => if (v.ok && !v.hasPtr) = true then (PX.tt, some v) else (PX.ff, none) | none => (PX.ff, none)) = (g, some v) → dresV st res = some v ∧ v.ok = true := fun h => by
      split at h
      · split at h
        · rename_i h1 h2
          simp only [Prod.mk.injEq, Option.some.injEq] at h
          obtain ⟨_, rfl⟩ := h
          simp only [Bool.and_eq_true] at h2
          exact ⟨h1, h2.1⟩
        · simp at h
      · simp at h
    cases e with
    | exit i => simp [DT.val] at h
    | normal => obtain ⟨h1, h2⟩ := gen h; exact ⟨trivial, .normal, st, v, rfl, by simp, h1, h2, rfl⟩
    | ret => obtain ⟨h1, h2⟩ := gen h; exact ⟨trivial, .ret, st, v, rfl, by simp, h1, h2, rfl⟩
  | .node c a b, g, v, h, hv, hg => by
    simp only [DT.val] at h
    have hno : ∀ {t : DT} {g : PX}, t.val res = (g, none) → ¬ g.den := by
      intro t
      induction t with
      | leaf e st =>
        intro g h
        cases e <;> simp only [DT.val] at h <;> (repeat' split at h) <;> simp only [Prod.mk.injEq, reduceCtorEq, and_false, and_true] at h <;> subst h <;> exact id
      | node c x y ih1 ih2 =>
        intro g h hg
        simp only [DT.val] at h
        cases h1 : x.val res with
        | mk g1 v1 =>
          cases h2 : y.val res with
          | mk g2 v2 =>
            rw [h1, h2] at h
            cases v1 with
            | none =>
              simp only [Prod.mk.injEq] at h
              obtain ⟨rfl, rfl⟩ := h
              have := (PX.if_den _ _ _).mp hg
              cases c with
              | true => exact ih1 h1 (this.1 rfl)
              | false => exact ih2 h2 (this.2 rfl)
            | some v1 => cases v2 <;> simp at h
      | chk g0 t ih =>
        intro g h hg
        simp only [DT.val] at h
        cases h1 : t.val res with
        | mk g1 v1 =>
          rw [h1] at h
          simp only [Prod.mk.injEq] at h
          obtain ⟨rfl, rfl⟩ := h
          exact ih h1 ((PX.land_den _ _).mp hg).2
      | bad =>
        intro g h
        simp only [DT.val, Prod.mk.injEq, and_true] at h
        subst h; exact id
    cases h1 : a.val res with
    | mk g1 v1 =>
      cases h2 : b.val res with
      | mk g2 v2 =>
        rw [h1, h2] at h
        have fin : ∀ (v1 v2 : DV), g = PX.if' c g1 g2 → a.val res = (g1, some v1) → b.val res = (g2, some v2) → v = mrgV c v1 v2 → (DT.node c a b).ok.den ∧ ∃ e st v0, (DT.node c a b).lf = some (e, st) ∧ (∀ i, e ≠ .exit i) ∧ dresV st res = some v0 ∧ v0.ok = true ∧ v.enc = v0.enc := by
          intro v1 v2 hgg h1 h2 hvv
          subst hgg
          have hg := (PX.if_den _ _ _).mp hg
          have he := (mrgV_s c v1 v2).resolve_left (by rw [← hvv]; exact hv)
          rw [← hvv] at he
          have n1 : v1 ≠ .any := by rintro rfl; apply hv; rw [hvv]; cases v2 <;> rfl
          have n2 : v2 ≠ .any := by rintro rfl; apply hv; rw [hvv]; cases v1 <;> rfl
          show (PX.if' c a.ok b.ok).den ∧ ∃ e st v0, (DT.node c a b).lf = some (e, st) ∧ (∀ i, e ≠ .exit i) ∧ dresV st res = some v0 ∧ v0.ok = true ∧ v.enc = v0.enc
          rw [PX.if_den]
          cases c with
          | true =>
            obtain ⟨k1, e, st, v0, k2, k3, k4, k5, k6⟩ := val_s h1 n1 (hg.1 rfl)
            exact ⟨⟨fun _ => k1, fun h => by cases h⟩, e, st, v0, k2, k3, k4, k5, by rw [he]; exact k6⟩
          | false =>
            obtain ⟨k1, e, st, v0, k2, k3, k4, k5, k6⟩ := val_s h2 n2 (hg.2 rfl)
            exact ⟨⟨fun h => (by cases h), fun _ => k1⟩, e, st, v0, k2, k3, k4, k5, by rw [he]; exact k6⟩
        cases v1 with
        | none =>
          simp only [Prod.mk.injEq] at h
          obtain ⟨rfl, rfl⟩ := h
          have hg := (PX.if_den _ _ _).mp hg
          show (PX.if' c a.ok b.ok).den ∧ _
          rw [PX.if_den]
          cases c with
          | true => exact absurd (hg.1 rfl) (hno h1)
          | false =>
            obtain ⟨k1, e, st, v0, k2, k3, k4, k5, k6⟩ := val_s h2 hv (hg.2 rfl)
            exact ⟨⟨fun h => (by cases h), fun _ => k1⟩, e, st, v0, k2, k3, k4, k5, k6⟩
        | some v1 =>
          cases v2 with
          | none =>
            simp only [Prod.mk.injEq, Option.some.injEq] at h
            obtain ⟨rfl, rfl⟩ := h
            have hg := (PX.if_den _ _ _).mp hg
            show (PX.if' c a.ok b.ok).den ∧ _
            rw [PX.if_den]
            cases c with
            | false => exact absurd (hg.2 rfl) (hno h2)
            | true =>
              obtain ⟨k1, e, st, v0, k2, k3, k4, k5, k6⟩ := val_s h1 hv (hg.1 rfl)
              exact ⟨⟨fun _ => k1, fun h => by cases h⟩, e, st, v0, k2, k3, k4, k5, k6⟩
          | some v2 =>
            simp only [Prod.mk.injEq, Option.some.injEq] at h
            exact fin v1 v2 h.1.symm h1 h2 h.2.symm
  | .chk g0 t, g, v, h, hv, hg => by
    simp only [DT.val] at h
    cases h1 : t.val res with
    | mk g1 v1 =>
      rw [h1] at h
      simp only [Prod.mk.injEq] at h
      obtain ⟨rfl, rfl⟩ := h
      have hg := (PX.land_den _ _).mp hg
      obtain ⟨k1, k2⟩ := val_s h1 hv hg.2
      exact ⟨(PX.land_den _ _).mpr ⟨hg.1, k1⟩, k2⟩
  | .bad, g, v, h, hv, hg => by simp [DT.val] at h
theorem EL.append : ∀ {a : List DC} {b : List PV} {c : List DC} {d : List PV}, EL a b → EL c d → EL (a ++ c) (b ++ d)
  | [], [], _, _, _, h => h
  | _ :: _, _ :: _, _, _, h, h' => ⟨h.1, EL.append h.2 h'⟩
theorem slots_EL : ∀ (n : Nat), EL (dslots n) (preps n)
  | 0 => trivial
  | n + 1 => ⟨.inl rfl, slots_EL n⟩
theorem boxes_EB : ∀ (n : Nat), EB (dboxes n) (prepb n)
  | 0 => trivial
  | n + 1 => ⟨.inl rfl, boxes_EB n⟩
theorem dfun_sound {f : DFun} (ho : AllD f.body.obs) {args : List DV} {g : PX} {v : DV} (h : dfun f args = (g, some v)) (hg : g.den) (hv : v ≠ .any) (hl : args.length = f.nparams) (hp : f.pure = true → v.flt = true)
    {Q : PV → List (List PV) → Prop} (hQ : ∀ H, Q v.enc H) : pfunSem f.er (DV.encL args) [] Q := by
  unfold dfun at h
  obtain ⟨hok, e, st, v0, h1, h2, h3, h4, h5⟩ := val_s h hv hg
  refine ⟨by rw [encL_len]; exact hl, fun _ => rfl, ?_⟩
  refine dev_s f.body ho (d := ⟨news args ++ dslots (f.nslots - f.nparams), dboxes f.nbox, []⟩) ⟨(EL.news args).append (slots_EL _), boxes_EB _, trivial⟩ hok h1 fun s' hs' => ?_
  obtain ⟨s2, e2⟩ := dresV_s hs' h3 h4
  rw [← h5] at e2
  have fin : (match presV s' f.res with | some (v, st) => if f.pure = true then v.flt = true ∧ Q v [] else Q v st.hp | none => False) := by
    rw [e2]
    simp only
    split
    · rename_i hpu
      exact ⟨flt_enc v (hp hpu), hQ _⟩
    · exact hQ _
  cases e with
  | normal => exact fin
  | ret => exact fin
  | exit i => exact absurd rfl (h2 i)
def TuX : List HT → Type
  | [] => Unit
  | [a] => a.D
  | a :: r => a.D × TuX r
def tuOf : (l : List HT) → List DV → Option (TuX l)
  | [], [] => some ()
  | [a], [v] => a.of v
  | a :: b :: r, v :: vs => (match a.of v, tuOf (b :: r) vs with
    | some x, some y => some (x, y)
    | _, _ => none)
  | _, _ => none
def tuDv : (l : List HT) → TuX l → List DV
  | [], _ => []
  | [a], x => [a.dv x]
  | a :: b :: r, x => a.dv x.1 :: tuDv (b :: r) x.2
inductive QT where
  | one (h : HT) | tup (l : List HT)
def QT.D : QT → Type
  | .one h => h.D
  | .tup l => TuX l
def QT.of : (q : QT) → DV → Option q.D
  | .one h, v => h.of v
  | .tup l, .tup vs => tuOf l vs
  | .tup _, _ => none
def QT.dv : (q : QT) → q.D → DV
  | .one h, x => h.dv x
  | .tup l, x => .tup (tuDv l x)
def QT.ofO (q : QT) : Option DV → Option q.D
  | some v => q.of v
  | none => none
def agDflt : (l : List (Ql × CT)) → AgX l
  | [] => ()
  | [a] => a.2.dflt
  | a :: b :: r => (a.2.dflt, agDflt (b :: r))
def HT.dflt : (h : HT) → h.D
  | .one _ t => t.dflt
  | .agg l => agDflt l
def tuDflt : (l : List HT) → TuX l
  | [] => ()
  | [a] => a.dflt
  | a :: b :: r => (a.dflt, tuDflt (b :: r))
def QT.dflt : (q : QT) → q.D
  | .one h => h.dflt
  | .tup l => tuDflt l
def HT.flt : HT → Bool
  | .one _ t => t.flat
  | .agg l => l.all fun a => a.2.flat
def QT.flt : QT → Bool
  | .one h => h.flt
  | .tup l => l.all HT.flt
theorem tu_of : ∀ {l : List HT} {vs : List DV} {x : TuX l}, tuOf l vs = some x → DV.encL (tuDv l x) = DV.encL vs
  | [], [], _, _ => rfl
  | [a], [v], x, h => by
    show [(a.dv x).enc] = [v.enc]
    rw [(ht_of (t := a) h).1]
  | a :: b :: r, v :: vs, x, h => by
    have h' : (match a.of v, tuOf (b :: r) vs with | some x, some y => some (x, y) | _, _ => none) = some x := h
    clear h
    cases h1 : a.of v with
    | none => rw [h1] at h'; cases h'
    | some p =>
      cases h2 : tuOf (b :: r) vs with
      | none => rw [h1, h2] at h'; cases h'
      | some q =>
        rw [h1, h2] at h'
        have h' := Option.some.inj h'
        subst h'
        show (a.dv p).enc :: DV.encL (tuDv (b :: r) q) = v.enc :: DV.encL vs
        rw [(ht_of h1).1, tu_of h2]
theorem qt_of {q : QT} {v : DV} {x : q.D} (h : q.of v = some x) : (q.dv x).enc = v.enc ∧ v ≠ .any := by
  cases q with
  | one t => exact ht_of (t := t) h
  | tup l =>
    cases v <;> try (cases h; done)
    rename_i cs
    refine ⟨?_, by simp⟩
    show PV.tup _ = PV.tup _
    rw [tu_of (l := l) h]
theorem tuDv_len : ∀ (l : List HT) (x : TuX l), (tuDv l x).length = l.length
  | [], _ => rfl
  | [_], _ => rfl
  | a :: b :: r, x => by
    show (tuDv (b :: r) x.2).length + 1 = (b :: r).length + 1
    rw [tuDv_len (b :: r) x.2]
theorem ct_flt {q : Ql} {t : CT} {v : DV} {x : t.D} (hf : t.flat = true) (h : t.ofQ q v = some x) : v.flt = true := by
  cases t <;> first | (cases hf; done) | skip
  all_goals (cases v <;> first | rfl | (cases h; done))
theorem ag_flt : ∀ {l : List (Ql × CT)} {vs : List DV} {x : AgX l}, l.all (fun a => a.2.flat) = true → agOf l vs = some x → DV.fltL vs = true
  | [], [], _, _, _ => rfl
  | [a], [v], x, hf, h => by
    simp only [List.all_cons, List.all_nil, Bool.and_true] at hf
    simp only [DV.fltL, ct_flt (q := a.1) hf h, Bool.and_self]
  | a :: b :: r, v :: vs, x, hf, h => by
    have h' : (match a.2.ofQ a.1 v, agOf (b :: r) vs with | some x, some y => some (x, y) | _, _ => none) = some x := h
    clear h
    rw [List.all_cons, Bool.and_eq_true] at hf
    cases h1 : a.2.ofQ a.1 v with
    | none => rw [h1] at h'; cases h'
    | some p =>
      cases h2 : agOf (b :: r) vs with
      | none => rw [h1, h2] at h'; cases h'
      | some q => simp only [DV.fltL, ct_flt hf.1 h1, ag_flt hf.2 h2, Bool.and_self]
theorem ht_flt {t : HT} {v : DV} {x : t.D} (hf : t.flt = true) (h : t.of v = some x) : v.flt = true := by
  cases t with
  | one q t => exact ct_flt (q := q) (t := t) hf h
  | agg l =>
    cases v <;> try (cases h; done)
    exact ag_flt (l := l) hf h
theorem tu_flt : ∀ {l : List HT} {vs : List DV} {x : TuX l}, l.all HT.flt = true → tuOf l vs = some x → DV.fltL vs = true
  | [], [], _, _, _ => rfl
  | [a], [v], x, hf, h => by
    simp only [List.all_cons, List.all_nil, Bool.and_true] at hf
    simp only [DV.fltL, ht_flt (t := a) hf h, Bool.and_self]
  | a :: b :: r, v :: vs, x, hf, h => by
    have h' : (match a.of v, tuOf (b :: r) vs with | some x, some y => some (x, y) | _, _ => none) = some x := h
    clear h
    rw [List.all_cons, Bool.and_eq_true] at hf
    cases h1 : a.of v with
    | none => rw [h1] at h'; cases h'
    | some p =>
      cases h2 : tuOf (b :: r) vs with
      | none => rw [h1, h2] at h'; cases h'
      | some q => simp only [DV.fltL, ht_flt hf.1 h1, tu_flt hf.2 h2, Bool.and_self]
theorem qt_flt {q : QT} {v : DV} {x : q.D} (hf : q.flt = true) (h : q.of v = some x) : v.flt = true := by
  cases q with
  | one t => exact ht_flt (t := t) hf h
  | tup l =>
    cases v <;> try (cases h; done)
    exact tu_flt (l := l) hf h
def DSemOf (hs : List HT) (q : QT) (ok : TuX hs → Prop) (v : TuX hs → q.D) : DSem := fun args => match tuOf hs args with
  | some x => some (.p (ok x), q.dv (v x))
  | none => none
noncomputable def DT.valQ (q : QT) (res : List ARes) : DT → PX × Option q.D
  | .leaf (.exit _) _ => (.ff, none)
  | .leaf _ st => (match dresV st res with
    | some v => if v.ok && !v.hasPtr then (match q.of v with
      | some y => (.tt, some y)
      | none => (.ff, none)) else (.ff, none)
    | none => (.ff, none))
  | .node c a b => (match a.valQ q res, b.valQ q res with
    | (g, none), (g', y) => (PX.if' c g g', y)
    | (g, x), (g', none) => (PX.if' c g g', x)
    | (g, some x), (g', some y) => (PX.if' c g g', some (bSel c x y)))
  | .chk g t => (match t.valQ q res with
    | (g', v) => (g.land g', v))
  | .bad => (.ff, none)
theorem valQ_none {q : QT} {res : List ARes} : ∀ {t : DT} {g : PX}, t.valQ q res = (g, none) → ¬ g.den
  | .leaf e st, g, h => by
    cases e <;> simp only [DT.valQ] at h <;> (repeat' split at h) <;> simp only [Prod.mk.injEq, reduceCtorEq, and_false, and_true] at h <;> subst h <;> exact id
  | .node c x y, g, h => by
    intro hg
    simp only [DT.valQ] at h
    cases h1 : x.valQ q res with
    | mk g1 v1 =>
      cases h2 : y.valQ q res with
      | mk g2 v2 =>
        rw [h1, h2] at h
        cases v1 with
        | none =>
          simp only [Prod.mk.injEq] at h
          obtain ⟨rfl, rfl⟩ := h
          have := (PX.if_den _ _ _).mp hg
          cases c with
          | true => exact valQ_none h1 (this.1 rfl)
          | false => exact valQ_none h2 (this.2 rfl)
        | some v1 => cases v2 <;> simp at h
  | .chk g0 t, g, h => by
    intro hg
    simp only [DT.valQ] at h
    cases h1 : t.valQ q res with
    | mk g1 v1 =>
      rw [h1] at h
      simp only [Prod.mk.injEq] at h
      obtain ⟨rfl, rfl⟩ := h
      exact valQ_none h1 ((PX.land_den _ _).mp hg).2
  | .bad, g, h => by
    simp only [DT.valQ, Prod.mk.injEq, and_true] at h
    subst h; exact id
theorem valQ_s {q : QT} {res : List ARes} : ∀ {t : DT} {g : PX} {y : q.D}, t.valQ q res = (g, some y) → g.den →
    t.ok.den ∧ ∃ e st v0, t.lf = some (e, st) ∧ (∀ i, e ≠ .exit i) ∧ dresV st res = some v0 ∧ v0.ok = true ∧ q.of v0 = some y
  | .leaf e st, g, y, h, hg => by
    have gen : (match dresV st res with | some v => if (v.ok && !v.hasPtr) = true then (match q.of v with | some y => (PX.tt, some y) | none => (PX.ff, none)) else (PX.ff, none) | none => (PX.ff, none)) = (g, some y) → ∃ v, dresV st res = some v ∧ v.ok = true ∧ q.of v = some y := fun h => by
      split at h
      · rename_i v hv
        split at h
        · rename_i hc
          simp only [Bool.and_eq_true] at hc
          split at h
          · rename_i y' hy
            simp only [Prod.mk.injEq, Option.some.injEq] at h
            obtain ⟨_, rfl⟩ := h
            exact ⟨v, hv, hc.1, hy⟩
          · simp at h
        · simp at h
      · simp at h
    cases e with
    | exit i => simp [DT.valQ] at h
    | normal => obtain ⟨v, h1, h2, h3⟩ := gen h; exact ⟨trivial, .normal, st, v, rfl, by simp, h1, h2, h3⟩
    | ret => obtain ⟨v, h1, h2, h3⟩ := gen h; exact ⟨trivial, .ret, st, v, rfl, by simp, h1, h2, h3⟩
  | .node c a b, g, y, h, hg => by
    simp only [DT.valQ] at h
    show (PX.if' c a.ok b.ok).den ∧ ∃ e st v0, (DT.node c a b).lf = some (e, st) ∧ (∀ i, e ≠ .exit i) ∧ dresV st res = some v0 ∧ v0.ok = true ∧ q.of v0 = some y
    rw [PX.if_den]
    cases h1 : a.valQ q res with
    | mk g1 v1 =>
      cases h2 : b.valQ q res with
      | mk g2 v2 =>
        rw [h1, h2] at h
        have hgg : g = PX.if' c g1 g2 := by
          cases v1 <;> cases v2 <;> simp only [Prod.mk.injEq] at h <;> exact h.1.symm
        subst hgg
        have hg := (PX.if_den _ _ _).mp hg
        cases c with
        | true =>
          have : v1 = some y := by
            cases v1 with
            | none => exact absurd (hg.1 rfl) (valQ_none h1)
            | some v1 => cases v2 <;> simp only [Prod.mk.injEq, bSel_t] at h <;> exact h.2
          subst this
          obtain ⟨k1, k2⟩ := valQ_s h1 (hg.1 rfl)
          exact ⟨⟨fun _ => k1, fun h => by cases h⟩, k2⟩
        | false =>
          have : v2 = some y := by
            cases v2 with
            | none => exact absurd (hg.2 rfl) (valQ_none h2)
            | some v2 => cases v1 <;> simp only [Prod.mk.injEq, bSel_f] at h <;> exact h.2
          subst this
          obtain ⟨k1, k2⟩ := valQ_s h2 (hg.2 rfl)
          exact ⟨⟨fun h => (by cases h), fun _ => k1⟩, k2⟩
  | .chk g0 t, g, y, h, hg => by
    simp only [DT.valQ] at h
    cases h1 : t.valQ q res with
    | mk g1 v1 =>
      rw [h1] at h
      simp only [Prod.mk.injEq] at h
      obtain ⟨rfl, rfl⟩ := h
      have hg := (PX.land_den _ _).mp hg
      obtain ⟨k1, k2⟩ := valQ_s h1 hg.2
      exact ⟨(PX.land_den _ _).mpr ⟨hg.1, k1⟩, k2⟩
  | .bad, g, y, h, hg => by simp [DT.valQ] at h
def QT.isB : QT → Bool
  | .one (.one _ .bool) => true
  | _ => false
noncomputable def fnR (f : DFun) (hs : List HT) (q : QT) (x : TuX hs) : PX × Option q.D :=
  if q.isB then ((dfun f (tuDv hs x)).1, q.ofO (dfun f (tuDv hs x)).2)
  else (dev f.body ⟨news (tuDv hs x) ++ dslots (f.nslots - f.nparams), dboxes f.nbox, []⟩).valQ q f.res
noncomputable def fnV (f : DFun) (hs : List HT) (q : QT) (x : TuX hs) : q.D := (fnR f hs q x).2.getD q.dflt
noncomputable def fnOk (f : DFun) (hs : List HT) (q : QT) (x : TuX hs) : Prop := (fnR f hs q x).1.den
noncomputable def fnChk (f : DFun) (hs : List HT) (q : QT) (x : TuX hs) : Bool := (fnR f hs q x).2.isSome
def fnSt (f : DFun) (hs : List HT) (q : QT) : Bool := hs.length == f.nparams && (!f.pure || q.flt)
theorem fn_sound {f : DFun} {hs : List HT} {q : QT} (ho : AllD f.body.obs) (hst : fnSt f hs q = true) (x : TuX hs) (hc : fnChk f hs q x = true) (hok : fnOk f hs q x)
    {Q : PV → List (List PV) → Prop} (hQ : ∀ H, Q (q.dv (fnV f hs q x)).enc H) : pfunSem f.er (DV.encL (tuDv hs x)) [] Q := by
  simp only [fnSt, Bool.and_eq_true, beq_iff_eq, Bool.or_eq_true, Bool.not_eq_true'] at hst
  unfold fnChk at hc
  unfold fnV at hQ
  unfold fnOk at hok
  unfold fnR at hc hQ hok
  by_cases hb : q.isB = true
  · rw [if_pos hb] at hc hQ hok
    cases hd : dfun f (tuDv hs x) with
    | mk g o =>
      rw [hd] at hc hQ hok
      cases o with
      | none => cases hc
      | some w =>
        obtain ⟨y, hy⟩ := Option.isSome_iff_exists.mp hc
        rw [hy] at hQ
        have hy : q.of w = some y := hy
        obtain ⟨h1, h2⟩ := qt_of hy
        refine dfun_sound ho hd hok h2 (by rw [tuDv_len]; exact hst.1) (fun hp => qt_flt (by simpa [hp] using hst.2) hy) fun H => ?_
        have := hQ H
        rw [Option.getD_some, h1] at this
        exact this
  · rw [if_neg hb] at hc hQ hok
    cases hd : (dev f.body ⟨news (tuDv hs x) ++ dslots (f.nslots - f.nparams), dboxes f.nbox, []⟩).valQ q f.res with
    | mk g o =>
      rw [hd] at hc hQ hok
      cases o with
      | none => cases hc
      | some y =>
        simp only [Option.getD_some] at hQ
        obtain ⟨k1, e, st, v0, k2, k3, k4, k5, k6⟩ := valQ_s hd hok
        obtain ⟨h1, h2⟩ := qt_of k6
        refine ⟨by rw [encL_len, tuDv_len]; exact hst.1, fun _ => rfl, ?_⟩
        refine dev_s f.body ho (d := ⟨news (tuDv hs x) ++ dslots (f.nslots - f.nparams), dboxes f.nbox, []⟩) ⟨(EL.news _).append (slots_EL _), boxes_EB _, trivial⟩ k1 k2 fun s' hs' => ?_
        obtain ⟨s2, e2⟩ := dresV_s hs' k4 k5
        rw [← h1] at e2
        have fin : (match presV s' f.res with | some (v, st) => if f.pure = true then v.flt = true ∧ Q v [] else Q v st.hp | none => False) := by
          rw [e2]
          simp only
          split
          · rename_i hpu
            exact ⟨by rw [h1]; exact flt_enc _ (qt_flt (by simpa [hpu] using hst.2) k6), hQ _⟩
          · exact hQ _
        cases e with
        | normal => exact fin
        | ret => exact fin
        | exit i => exact absurd rfl (k3 i)
theorem soundD_of {f : DFun} {hs : List HT} {q : QT} (ho : AllD f.body.obs) (hst : fnSt f hs q = true) (hc : ∀ x, fnChk f hs q x = true) {ok : TuX hs → Prop} {v : TuX hs → q.D} (hok : ∀ x, ok x → fnOk f hs q x) (hv : ∀ x, fnV f hs q x = v x) :
    SoundD (pfunSem f.er) (DSemOf hs q ok v) := by
  intro args g w Q h hg hQ
  unfold DSemOf at h
  cases hx : tuOf hs args with
  | none => rw [hx] at h; cases h
  | some x =>
    rw [hx] at h
    simp only [Option.some.injEq, Prod.mk.injEq] at h
    obtain ⟨rfl, rfl⟩ := h
    rw [← tu_of hx]
    exact fn_sound ho hst x (hc x) (hok x hg) fun H => by rw [hv]; exact hQ H
attribute [irreducible] fnR fnV fnOk fnChk fnSt
open Go.RowKit Go.WideShapes Go.ChangeShapes
inductive Ty where
  | int (k : IntKind)
  | bool
  | str
  | sl (t : Ty)
  | unit
  | pair (a b : Ty)
def Ty.w : Ty → Nat
  | .int _ | .bool | .str | .sl _ => 1
  | .unit => 0
  | .pair a b => a.w + b.w
def tyFs (P : Program) (f : TypeId → Option Ty) : List Field → Nat → Option Ty
  | [], _ => some .unit
  | g :: r, off =>
    match f g.type with
    | some a => if g.offset = off ∧ a.w = P.cellsOf g.type then (match tyFs P f r (off + a.w) with | some b => some (.pair a b) | none => none) else none
    | none => none
def tyOf (P : Program) : Nat → TypeId → Option Ty
  | 0, _ => none
  | d + 1, t =>
    match P.underlying t with
    | some (.int k) => some (.int k)
    | some .bool => some .bool
    | some .string => some .str
    | some (.slice e) => (match tyOf P d e with | some te => if te.w = P.cellsOf e ∧ 0 < te.w then some (.sl te) else none | none => none)
    | some (.struct fs) => (match tyFs P (tyOf P d) fs.toList 0 with | some ty => if ty.w = P.cellsOf t then some ty else none | none => none)
    | _ => none
def Sh (σ : Heap) : Ty → List V → Prop
  | .int k, cs => ∃ n, cs = [.int k n] ∧ (Lit.int k n).wf = true
  | .bool, cs => ∃ b, cs = [.bool b]
  | .str, cs => ∃ s, cs = [.str s] ∧ s.length ≤ maxLen
  | .sl t, cs => cs = [.nils] ∨ ∃ (l n : Nat) (bs : List V), cs = [.slice l 0 n] ∧ σ[l]? = some ⟨.ro, t.w, bs⟩ ∧ bs.length = n * t.w ∧ n ≤ maxLen ∧ ∀ i, i < n → Sh σ t ((bs.drop (i * t.w)).take t.w)
  | .unit, cs => cs = []
  | .pair a b, cs => ∃ xs ys, cs = xs ++ ys ∧ Sh σ a xs ∧ Sh σ b ys
theorem Sh.len {σ : Heap} : ∀ {ty : Ty} {cs : List V}, Sh σ ty cs → cs.length = ty.w
  | .int _, _, ⟨_, h, _⟩ => by rw [h]; rfl
  | .bool, _, ⟨_, h⟩ => by rw [h]; rfl
  | .str, _, ⟨_, h, _⟩ => by rw [h]; rfl
  | .sl _, _, h => by rcases h with h | ⟨_, _, _, h, _⟩ <;> rw [h] <;> rfl
  | .unit, _, h => by rw [h]; rfl
  | .pair a b, _, ⟨xs, ys, h, h1, h2⟩ => by rw [h, List.length_append, h1.len, h2.len]; rfl
theorem Sh.mono {σ e : Heap} : ∀ {ty : Ty} {cs : List V}, Sh σ ty cs → Sh (σ ++ e) ty cs
  | .int _, _, h => h
  | .bool, _, h => h
  | .str, _, h => h
  | .sl _, _, h => by
    rcases h with h | ⟨l, n, bs, h, h1, h2, h3, h4⟩
    · exact .inl h
    · exact .inr ⟨l, n, bs, h, by rw [List.getElem?_append_left (get_len h1)]; exact h1, h2, h3, fun i hi => (h4 i hi).mono⟩
  | .unit, _, h => h
  | .pair _ _, _, ⟨xs, ys, h, h1, h2⟩ => ⟨xs, ys, h, h1.mono, h2.mono⟩
def AllRo (σ : Heap) : Prop := ∀ (l : Nat) (b : Blk), σ[l]? = some b → b.k = .ro
def Built (ι : Inj) (σ : Heap) (W : World) (ty : Ty) (cs : List Value) : Prop :=
  ∃ ι' e vs, HRel ι' (σ ++ e) W ∧ Keeps ι σ ι' (σ ++ e) ∧ AllRo (σ ++ e) ∧ Sh (σ ++ e) ty vs ∧ vs.length = cs.length ∧ ∀ (i : Nat) v x, vs[i]? = some v → cs[i]? = some x → v.cell = true ∧ ∀ β, Rel ι' (σ ++ e) β v x
theorem HRel.lay {ι : Inj} {σ : Heap} {W : World} (h : HRel ι σ W) (hro : AllRo σ) {b off c : Nat} {wd : Nat} {bs : List V} (hb : b < W.heap.size) (hc : ∀ (i : Nat) v, bs[i]? = some v → v.cell = true ∧ ∃ x, W.cell? ⟨b, off + i, none⟩ = some x ∧ ∀ β, Rel ι σ β v x) :
    HRel (upd ι σ.length ⟨b, off, c⟩) (σ ++ [⟨.ro, wd, bs⟩]) W ∧ AllRo (σ ++ [⟨.ro, wd, bs⟩]) := by
  have K := keeps_push ι σ ⟨b, off, c⟩ ⟨.ro, wd, bs⟩
  have hall : AllRo (σ ++ [⟨.ro, wd, bs⟩]) := by
    intro l blk hl
    rcases push_get hl with ⟨_, hl⟩ | ⟨_, rfl⟩
    · exact hro l blk hl
    · rfl
  refine ⟨⟨fun l blk hl hk i v hv => ?_, fun l blk hl hk => ?_, fun l l' blk blk' hne hl hl' hk hk' => ?_, fun l blk hl hk => ?_⟩, hall⟩
  · rcases push_get hl with ⟨hlt, hl⟩ | ⟨rfl, rfl⟩
    · rw [upd_other _ _ _ _ (by omega)]
      obtain ⟨a, x, b', c⟩ := h.cells l blk hl hk i v hv
      exact ⟨a, x, b', fun β => (c β).cellMono K a⟩
    · rw [upd_same]
      obtain ⟨a, x, b', c⟩ := hc i v hv
      exact ⟨a, x, b', fun β => (c β).cellMono K a⟩
  · have := hall l blk hl; rw [hk] at this; cases this
  · have := hall l blk hl; rw [hk] at this; cases this
  · rcases push_get hl with ⟨hlt, hl⟩ | ⟨rfl, rfl⟩
    · rw [upd_other _ _ _ _ (by omega)]; exact h.there l blk hl hk
    · rw [upd_same]; exact hb
theorem cell_block_lt {w : World} {a : Addr} {v : Value} (h : w.cell? a = some v) : a.block < w.heap.size := by
  unfold World.cell? at h
  rcases Nat.lt_or_ge a.block w.heap.size with h1 | h1
  · exact h1
  · rw [Array.getElem?_eq_none h1] at h; cases h
theorem get_lt {α : Type} {l : List α} {i : Nat} {v : α} (h : l[i]? = some v) : i < l.length := by
  rcases Nat.lt_or_ge i l.length with h1 | h1
  · exact h1
  · rw [List.getElem?_eq_none h1] at h; cases h
section
variable {H : Type} {enc : TypeId × Value → H} {P : Program} {W : World}
theorem built_fields (d : Nat) (ih : ∀ (t : TypeId) (ty : Ty), tyOf P d t = some ty → ∀ (fuel : Nat) (cs : List Value) x, DataW.trod enc P W 0 (fun _ => true) true fuel t cs = some x → ∀ (ι : Inj) (σ : Heap), HRel ι σ W → AllRo σ → Built ι σ W ty cs) :
    ∀ (fs : List Field) (off : Nat) (ty : Ty), tyFs P (tyOf P d) fs off = some ty → ∀ (fuel : Nat) (cs : List Value), (∀ g ∈ fs, ∃ x, DataW.trod enc P W 0 (fun _ => true) true fuel g.type ((cs.drop g.offset).take (P.cellsOf g.type)) = some x) →
      off + ty.w = cs.length → ∀ (ι : Inj) (σ : Heap), HRel ι σ W → AllRo σ → Built ι σ W ty (cs.drop off)
  | [], off, ty, h, fuel, cs, _, hl, ι, σ, H, hro => by
    simp only [tyFs, Option.some.injEq] at h
    subst h
    simp only [Ty.w, Nat.add_zero] at hl
    have : cs.drop off = [] := by rw [hl]; simp
    rw [this]
    exact ⟨ι, [], [], by simpa using H, by simpa using Keeps.refl ι σ, by simpa using hro, rfl, rfl, by simp⟩
  | g :: r, off, ty, h, fuel, cs, hg, hl, ι, σ, H, hro => by
    simp only [tyFs] at h
    split at h
    · rename_i a ha
      split at h
      · rename_i hc
        obtain ⟨h1, h2⟩ := hc
        split at h
        · rename_i b hb
          cases h
          simp only [Ty.w] at hl
          obtain ⟨x, hx⟩ := hg g (by simp)
          rw [h1] at hx
          obtain ⟨ι1, e1, vs1, H1, K1, R1, S1, L1, C1⟩ := ih g.type a ha fuel _ x hx ι σ H hro
          obtain ⟨ι2, e2, vs2, H2, K2, R2, S2, L2, C2⟩ := built_fields d ih r (off + a.w) b hb fuel cs (fun g' hg' => hg g' (by simp [hg'])) (by omega) ι1 (σ ++ e1) H1 R1
          refine ⟨ι2, e1 ++ e2, vs1 ++ vs2, by rw [← List.append_assoc]; exact H2, by rw [← List.append_assoc]; exact K1.trans K2, by rw [← List.append_assoc]; exact R2, ⟨vs1, vs2, rfl, by rw [← List.append_assoc]; exact S1.mono, by rw [← List.append_assoc]; exact S2⟩, ?_, fun i v y hv hy => ?_⟩
          · rw [List.length_append, L1, L2]
            simp; omega
          · have hl1 : vs1.length = a.w := S1.len
            by_cases hi : i < vs1.length
            · rw [List.getElem?_append_left hi] at hv
              have hy' : ((cs.drop off).take (P.cellsOf g.type))[i]? = some y := by
                rw [List.getElem?_take, if_pos (by omega)]; exact hy
              obtain ⟨q1, q2⟩ := C1 i v y hv hy'
              exact ⟨q1, fun β => by rw [← List.append_assoc]; exact (q2 β).cellMono K2 q1⟩
            · rw [List.getElem?_append_right (by omega)] at hv
              have hy' : (cs.drop (off + a.w))[i - vs1.length]? = some y := by
                rw [List.getElem?_drop] at hy ⊢
                have : off + a.w + (i - vs1.length) = off + i := by omega
                rw [this]; exact hy
              obtain ⟨q1, q2⟩ := C2 _ v y hv hy'
              exact ⟨q1, fun β => by rw [← List.append_assoc]; exact q2 β⟩
        · cases h
      · cases h
    · cases h
theorem add_off {b o : Nat} (n : Nat) : Addr.add ⟨b, o, none⟩ n = ⟨b, o + n, none⟩ := by
  unfold Addr.add
  split
  · rename_i h; subst h; rfl
  · rfl
theorem built_elems {d : Nat} (ih : ∀ (t : TypeId) (ty : Ty), tyOf P d t = some ty → ∀ (fuel : Nat) (cs : List Value) x, DataW.trod enc P W 0 (fun _ => true) true fuel t cs = some x → ∀ (ι : Inj) (σ : Heap), HRel ι σ W → AllRo σ → Built ι σ W ty cs)
    {e : TypeId} {te : Ty} (hte : tyOf P d e = some te) (hw : te.w = P.cellsOf e) {fuel b o : Nat} :
    ∀ (n : Nat), (∀ i, i < n → ∃ cs x, W.cells? 0 ⟨b, o + i * te.w, none⟩ te.w = some cs ∧ DataW.trod enc P W 0 (fun _ => true) true fuel e cs = some x) → ∀ (ι : Inj) (σ : Heap), HRel ι σ W → AllRo σ →
      ∃ (ι' : Inj) (ext : Heap) (bs : List V), HRel ι' (σ ++ ext) W ∧ Keeps ι σ ι' (σ ++ ext) ∧ AllRo (σ ++ ext) ∧ bs.length = n * te.w ∧ (∀ i, i < n → Sh (σ ++ ext) te ((bs.drop (i * te.w)).take te.w)) ∧
        ∀ (j : Nat) v, bs[j]? = some v → v.cell = true ∧ ∃ x, W.cell? ⟨b, o + j, none⟩ = some x ∧ ∀ β, Rel ι' (σ ++ ext) β v x
  | 0, _, ι, σ, H0, hro => ⟨ι, [], [], by simpa using H0, by simpa using Keeps.refl ι σ, by simpa using hro, by simp, fun i hi => absurd hi (Nat.not_lt_zero i), by simp⟩
  | n + 1, hn, ι, σ, H0, hro => by
    obtain ⟨ι1, e1, bs, H1, K1, R1, L1, S1, C1⟩ := built_elems ih hte hw n (fun i hi => hn i (Nat.lt_succ_of_lt hi)) ι σ H0 hro
    obtain ⟨cs, x, hc, hx⟩ := hn n (Nat.lt_succ_self n)
    obtain ⟨ι2, e2, vs, H2, K2, R2, S2, L2, C2⟩ := ih e te hte fuel cs x hx ι1 (σ ++ e1) H1 R1
    obtain ⟨_, hcl, hcg⟩ := World.cells?_some hc
    refine ⟨ι2, e1 ++ e2, bs ++ vs, by rw [← List.append_assoc]; exact H2, by rw [← List.append_assoc]; exact K1.trans K2, by rw [← List.append_assoc]; exact R2, ?_, fun i hi => ?_, fun j v hv => ?_⟩
    · rw [List.length_append, L1, L2, hcl, Nat.succ_mul]
    · rw [← List.append_assoc]
      by_cases h : i < n
      · have h1 : (i + 1) * te.w ≤ n * te.w := Nat.mul_le_mul_right _ h
        rw [Nat.succ_mul] at h1
        have : ((bs ++ vs).drop (i * te.w)).take te.w = (bs.drop (i * te.w)).take te.w := by
          rw [List.drop_append_of_le_length (by omega), List.take_append_of_le_length (by rw [List.length_drop]; omega)]
        rw [this]
        exact (S1 i h).mono
      · have : i = n := by omega
        subst this
        have : ((bs ++ vs).drop (i * te.w)).take te.w = vs := by
          rw [← L1, List.drop_left, List.take_of_length_le (by omega)]
        rw [this]
        exact S2
    · by_cases h : j < bs.length
      · rw [List.getElem?_append_left h] at hv
        obtain ⟨q1, y, q2, q3⟩ := C1 j v hv
        exact ⟨q1, y, q2, fun β => by rw [← List.append_assoc]; exact (q3 β).cellMono K2 q1⟩
      · rw [List.getElem?_append_right (by omega)] at hv
        have hlt := get_lt hv
        have hlt' : j - bs.length < te.w := by rw [← hcl, ← L2]; exact hlt
        have hg := hcg (j - bs.length) hlt'
        rw [add_off] at hg
        have e0 : o + n * te.w + (j - bs.length) = o + j := by omega
        rw [e0] at hg
        obtain ⟨y, hy⟩ : ∃ y, cs[j - bs.length]? = some y := ⟨_, List.getElem?_eq_getElem (by omega)⟩
        obtain ⟨q1, q2⟩ := C2 _ v y hv hy
        exact ⟨q1, y, hg.trans hy, fun β => by rw [← List.append_assoc]; exact q2 β⟩
theorem built_of_trod : ∀ (d : Nat) (t : TypeId) (ty : Ty), tyOf P d t = some ty → ∀ (fuel : Nat) (cs : List Value) x, DataW.trod enc P W 0 (fun _ => true) true fuel t cs = some x → ∀ (ι : Inj) (σ : Heap), HRel ι σ W → AllRo σ → Built ι σ W ty cs
  | 0, _, _, h => by simp [tyOf] at h
  | d + 1, t, ty, h => by
    intro fuel cs x hx ι σ H0 hro
    have one : ∀ (v : V) (y : Value), cs = [y] → v.cell = true → (∀ β, Rel ι σ β v y) → Sh σ ty [v] → Built ι σ W ty cs := by
      intro v y hc hv hr hs
      refine ⟨ι, [], [v], by simpa using H0, by simpa using Keeps.refl ι σ, by simpa using hro, by simpa using hs, by rw [hc]; rfl, fun i u z hu hz => ?_⟩
      rw [hc] at hz
      cases i with
      | zero => simp at hu hz; subst hu; subst hz; exact ⟨hv, by simpa using hr⟩
      | succ i => simp at hu
    unfold tyOf at h
    split at h
    · rename_i k hu
      cases h
      obtain ⟨n, hc, _, hwf⟩ := DataW.trod_int hu hx
      exact one (.int k n) _ hc rfl (fun β => .int k n) ⟨n, rfl, hwf⟩
    · rename_i hu
      cases h
      obtain ⟨b, hc, _⟩ := DataW.trod_bool hu hx
      exact one (.bool b) _ hc rfl (fun β => .bool b) ⟨b, rfl⟩
    · rename_i hu
      cases h
      obtain ⟨s, hc, _, hwf⟩ := DataW.trod_string hu hx
      exact one (.str s.data.toList) _ hc rfl (fun β => by have := Rel.str (ι := ι) (σ := σ) (β := β) s.data.toList; simpa using this) ⟨s.data.toList, rfl, by simpa using hwf⟩
    · rename_i e hu
      split at h
      · rename_i te hte
        split at h
        · rename_i hw
          obtain ⟨hw, hpos⟩ := hw
          cases h
          rcases DataW.trod_slice hu hx with ⟨hc, _⟩ | ⟨a, len, cap, elems, rest, n, _, hc, _, _, hle, hcap, hel, hE, hR, _⟩
          · exact one .nils _ hc rfl (fun β => .nils none) (.inl rfl)
          · obtain ⟨hrl, hR⟩ := hR rfl
            have hcell : ∀ i, i < cap → ∃ cs' y, W.cells? 0 (a.add (i * P.cellsOf e)) (P.cellsOf e) = some cs' ∧ DataW.trod enc P W 0 (fun _ => true) true n e cs' = some y := by
              intro i hi
              by_cases h : i < len
              · have h1 := hE i h
                obtain ⟨y, hy⟩ : ∃ y, elems[i]? = some y := ⟨_, List.getElem?_eq_getElem (by omega)⟩
                rw [hy, Option.bind_eq_some_iff] at h1
                obtain ⟨cs', h1, h2⟩ := h1
                exact ⟨cs', y, h1, h2⟩
              · have h1 := hR (i - len) (by omega)
                obtain ⟨y, hy⟩ : ∃ y, rest[i - len]? = some y := ⟨_, List.getElem?_eq_getElem (by omega)⟩
                rw [hy, Option.bind_eq_some_iff] at h1
                obtain ⟨cs', h1, h2⟩ := h1
                rw [show len + (i - len) = i by omega] at h1
                exact ⟨cs', y, h1, h2⟩
            by_cases hc0 : cap = 0
            · subst hc0
              have : len = 0 := by omega
              subst this
              exact one .nils _ hc rfl (fun β => .nils (some a)) (.inl rfl)
            · have hsp : a.spot = none ∧ a.block < W.heap.size := by
                obtain ⟨cs', y, h1, _⟩ := hcell 0 (by omega)
                obtain ⟨_, h2, h3⟩ := World.cells?_some h1
                have h4 := h3 0 (by omega)
                obtain ⟨z, hz⟩ : ∃ z, cs'[0]? = some z := ⟨_, List.getElem?_eq_getElem (by omega)⟩
                rw [hz] at h4
                have h5 : W.cell? a = some z := by simpa [Addr.add] using h4
                exact ⟨World.cell?_spot h5, cell_block_lt h5⟩
              obtain ⟨ab, ao, asp⟩ := a
              obtain ⟨hsp, hlt⟩ := hsp
              simp only at hsp hlt
              subst hsp
              have hcell' : ∀ i, i < len → ∃ cs' y, W.cells? 0 ⟨ab, ao + i * te.w, none⟩ te.w = some cs' ∧ DataW.trod enc P W 0 (fun _ => true) true n e cs' = some y := by
                intro i hi
                have := hcell i (by omega)
                rw [add_off, ← hw] at this
                exact this
              obtain ⟨ι1, e1, bs, H1, K1, R1, L1, S1, C1⟩ := built_elems (built_of_trod d) hte hw len hcell' ι σ H0 hro
              obtain ⟨H2, R2⟩ := H1.lay R1 (c := cap * te.w) (wd := te.w) hlt C1
              have K2 := keeps_push ι1 (σ ++ e1) ⟨ab, ao, cap * te.w⟩ ⟨.ro, te.w, bs⟩
              have hg : ((σ ++ e1) ++ [(⟨.ro, te.w, bs⟩ : Blk)])[(σ ++ e1).length]? = some ⟨.ro, te.w, bs⟩ := by simp
              refine ⟨_, e1 ++ [⟨.ro, te.w, bs⟩], [.slice (σ ++ e1).length 0 len], by rw [← List.append_assoc]; exact H2, by rw [← List.append_assoc]; exact K1.trans K2, by rw [← List.append_assoc]; exact R2, .inr ⟨_, len, bs, rfl, by rw [← List.append_assoc]; exact hg, L1, by omega, fun i hi => by rw [← List.append_assoc]; exact (S1 i hi).mono⟩, by rw [hc]; rfl, fun i u z hu hz => ?_⟩
              rw [hc] at hz
              cases i with
              | zero =>
                simp at hu hz; subst hu; subst hz
                refine ⟨rfl, fun β => ?_⟩
                have := Rel.slice (ι := upd ι1 (σ ++ e1).length ⟨ab, ao, cap * te.w⟩) (σ := (σ ++ e1) ++ [⟨.ro, te.w, bs⟩]) (β := β) (σ ++ e1).length 0 len cap ⟨.ro, te.w, bs⟩ hg hle (by rw [upd_same]; simp)
                rw [upd_same] at this
                simpa using this
              | succ i => simp at hu
        · cases h
      · cases h
    · rename_i fs hu
      split at h
      · rename_i ty' hty
        split at h
        · rename_i hw
          cases h
          obtain ⟨xs, n, _, _, hl, hxl, hf⟩ := DataW.trod_struct hu hx
          have := built_fields (enc := enc) d (built_of_trod d) fs.toList 0 _ hty n cs (fun g hg => by
            obtain ⟨i, hi⟩ := List.getElem?_of_mem hg
            have h1 := hf i g (by simpa using hi)
            have : i < xs.length := by rw [hxl]; have := get_lt hi; simpa using this
            exact ⟨_, h1.trans (List.getElem?_eq_getElem this)⟩) (by omega) ι σ H0 hro
          simpa using this
        · cases h
      · cases h
    · cases h
end
open Go.RowKit Go.WideShapes Go.ChangeShapes
def argTy (P : Program) (d : Nat) (t : TypeId) : Option (Ty × Bool) :=
  match tyOf P d t with
  | some ty => (match P.underlying t with
    | some (.struct _) => some (ty, true)
    | some (.int _) | some .bool | some .string | some (.slice _) => some (ty, false)
    | _ => none)
  | none => none
def argTys (P : Program) (d : Nat) : List TypeId → Option (List (Ty × Bool))
  | [] => some []
  | t :: r => match argTy P d t, argTys P d r with
    | some a, some b => some (a :: b)
    | _, _ => none
def ArgOk (σ : Heap) : Ty × Bool → V → Prop
  | (ty, true), v => ∃ cs, v = .agg cs ∧ Sh σ ty cs ∧ cs.all V.cell = true
  | (ty, false), v => Sh σ ty [v] ∧ v.cell = true
def ArgsOk (σ : Heap) : List (Ty × Bool) → List V → Prop
  | [], [] => True
  | a :: r, v :: s => ArgOk σ a v ∧ ArgsOk σ r s
  | _, _ => False
theorem ArgOk.mono {σ e : Heap} {a : Ty × Bool} {v : V} (h : ArgOk σ a v) : ArgOk (σ ++ e) a v := by
  obtain ⟨ty, b⟩ := a
  cases b with
  | true => obtain ⟨cs, h1, h2, h3⟩ := h; exact ⟨cs, h1, h2.mono, h3⟩
  | false => exact ⟨h.1.mono, h.2⟩
theorem ArgOk.noBox {σ : Heap} {a : Ty × Bool} {v : V} (h : ArgOk σ a v) : ∀ i o, v ≠ .box i o := by
  obtain ⟨ty, b⟩ := a
  intro i o e
  subst e
  cases b with
  | true => obtain ⟨cs, h1, _⟩ := h; cases h1
  | false => have := h.2; cases this
section
variable {H : Type} {enc : TypeId × Value → H} {P : Program} {W : World} {r : Reach} {base : Nat}
theorem built_arg {d : Nat} {t : TypeId} {a : Ty × Bool} (ha : argTy P d t = some a) {v : Value} {dd : DataW H} {ps : List MemPlace} (h : DataW.Trod enc P W 0 (fun _ => true) true t v dd ps) (hok : Value.okWide P W r base t v)
    (ι : Inj) (σ : Heap) (H0 : HRel ι σ W) (hro : AllRo σ) :
    ∃ ι' e u, HRel ι' (σ ++ e) W ∧ Keeps ι σ ι' (σ ++ e) ∧ AllRo (σ ++ e) ∧ ArgOk (σ ++ e) a u ∧ ∀ β, Rel ι' (σ ++ e) β u v := by
  unfold argTy at ha
  split at ha
  · rename_i ty hty
    obtain ⟨fuel, hx⟩ := h
    obtain ⟨ι', e, vs, h1, h2, h3, h4, h5, h6⟩ := built_of_trod d t ty hty fuel _ _ hx ι σ H0 hro
    have one : ∀ (hc : v.cells = #[v]), a = (ty, false) → ∃ ι' e u, HRel ι' (σ ++ e) W ∧ Keeps ι σ ι' (σ ++ e) ∧ AllRo (σ ++ e) ∧ ArgOk (σ ++ e) a u ∧ ∀ β, Rel ι' (σ ++ e) β u v := by
      intro hc ea
      rw [hc] at h5 h6
      match vs, h5, h4, h6 with
      | [u], _, h4, h6 =>
        obtain ⟨c1, c2⟩ := h6 0 u v rfl rfl
        exact ⟨ι', e, u, h1, h2, h3, by rw [ea]; exact ⟨h4, c1⟩, c2⟩
    split at ha
    · rename_i fs hu
      cases ha
      obtain ⟨cs, rfl, _⟩ := okWide_struct hu hok
      replace h5 : vs.length = cs.toList.length := h5
      refine ⟨ι', e, .agg vs, h1, h2, h3, ⟨vs, rfl, h4, ?_⟩, fun β => ?_⟩
      · rw [List.all_eq_true]
        intro u hu'
        obtain ⟨i, hi⟩ := List.getElem?_of_mem hu'
        have : i < cs.toList.length := by rw [← h5]; exact get_lt hi
        exact (h6 i u _ hi (List.getElem?_eq_getElem this)).1
      · have := Rel.agg (ι := ι') (σ := σ ++ e) (β := β) vs cs.toList h5 (fun u hu' => by
          obtain ⟨i, hi⟩ := List.getElem?_of_mem hu'
          have : i < cs.toList.length := by rw [← h5]; exact get_lt hi
          exact (h6 i u _ hi (List.getElem?_eq_getElem this)).1) (fun i u w hi hw => (h6 i u w hi hw).2 β)
        simpa using this
    · rename_i k hu
      cases ha
      obtain ⟨n, rfl⟩ := okWide_int hu hok
      exact one rfl rfl
    · rename_i hu
      cases ha
      obtain ⟨n, rfl⟩ := okWide_bool hu hok
      exact one rfl rfl
    · rename_i hu
      cases ha
      obtain ⟨n, rfl⟩ := okWide_string hu hok
      exact one rfl rfl
    · rename_i el hu
      cases ha
      obtain ⟨x, y, z, rfl⟩ := okWide_slice hu hok
      exact one rfl rfl
    · cases ha
  · cases ha
theorem built_args {d : Nat} : ∀ {ts : List TypeId} {tys : List (Ty × Bool)}, argTys P d ts = some tys → ∀ {vs : List Value} {ds : List (DataW H)} {ps : List MemPlace}, DataW.TrodAll enc P W 0 (fun _ => true) true ts vs ds ps →
    (∀ (j : Nat) t v, ts[j]? = some t → vs[j]? = some v → Value.okWide P W r base t v) → ∀ (ι : Inj) (σ : Heap), HRel ι σ W → AllRo σ →
    ∃ ι' e us, HRel ι' (σ ++ e) W ∧ Keeps ι σ ι' (σ ++ e) ∧ AllRo (σ ++ e) ∧ ArgsOk (σ ++ e) tys us ∧ us.length = vs.length ∧ ∀ (i : Nat) u v, us[i]? = some u → vs[i]? = some v → (∀ j o, u ≠ .box j o) ∧ ∀ β, Rel ι' (σ ++ e) β u v
  | [], tys, h, vs, ds, ps, hd, _, ι, σ, H0, hro => by
    obtain ⟨rfl, _, _⟩ := trodAll_nil hd
    cases h
    exact ⟨ι, [], [], by simpa using H0, by simpa using Keeps.refl ι σ, by simpa using hro, trivial, rfl, by simp⟩
  | t :: ts, tys, h, vs, ds, ps, hd, hok, ι, σ, H0, hro => by
    obtain ⟨v, vs', x, ds', p, q, rfl, rfl, rfl, h1, h2⟩ := trodAll_cons hd
    unfold argTys at h
    split at h
    · rename_i a b ha hb
      cases h
      obtain ⟨ι1, e1, u, H1, K1, R1, A1, C1⟩ := built_arg ha h1 (hok 0 t v rfl rfl) ι σ H0 hro
      obtain ⟨ι2, e2, us, H2, K2, R2, A2, L2, C2⟩ := built_args hb h2 (fun j t' v' hj hv => hok (j + 1) t' v' hj hv) ι1 (σ ++ e1) H1 R1
      refine ⟨ι2, e1 ++ e2, u :: us, by rw [← List.append_assoc]; exact H2, by rw [← List.append_assoc]; exact K1.trans K2, by rw [← List.append_assoc]; exact R2, by rw [← List.append_assoc]; exact ⟨A1.mono, A2⟩, by simp [L2], fun i u' v' hu hv => ?_⟩
      rw [← List.append_assoc]
      cases i with
      | zero =>
        simp at hu hv; subst hu; subst hv
        exact ⟨A1.noBox, fun β => (C1 β).mono K2 (fun j o e => absurd e (A1.noBox j o))⟩
      | succ i => exact C2 i u' v' (by simpa using hu) (by simpa using hv)
    · cases h
end
def rowsOk (P : Program) (ts : List TypeId) : Bool := ts.all fun t => P.readableRec t && decide (t < P.types.size)
theorem trodAll_stays {H : Type} {enc : TypeId × Value → H} {P : Program} (hl : laidOutB P = true) {W W' : World} {sp' : Nat → Bool} : ∀ {ts : List TypeId} {vs : List Value} {ds : List (DataW H)} {ps : List MemPlace}, rowsOk P ts = true →
    DataW.TrodAll enc P W 0 (fun _ => true) true ts vs ds ps → (∀ p ∈ ps, W.sameAt W' p) → (∀ p ∈ ps, sp' p.block = true) → DataW.TrodAll enc P W' 0 sp' true ts vs ds ps
  | [], vs, ds, ps, _, h, _, _ => by
    obtain ⟨rfl, rfl, rfl⟩ := trodAll_nil h
    rfl
  | t :: ts, vs, ds, ps, hr, h, h1, h2 => by
    obtain ⟨v, vs', x, ds', p, q, rfl, rfl, rfl, g1, g2⟩ := trodAll_cons h
    unfold rowsOk at hr
    rw [List.all_cons, Bool.and_eq_true, Bool.and_eq_true, decide_eq_true_eq] at hr
    exact ⟨p, q, WideElems.Trod_stays hl hr.1.1 hr.1.2 g1 (fun y hy => h1 y (by simp [hy])) (fun y hy => h2 y (by simp [hy])), trodAll_stays hl hr.2 g2 (fun y hy => h1 y (by simp [hy])) (fun y hy => h2 y (by simp [hy])), rfl⟩
theorem post_of_under {H : Type} {enc : TypeId × Value → H} {P : Program} {f : Func} {s : ChangeSpec} {apart fresh handsOn again : Bool} {W W' : World} {args : Array Value} {v : Value} {ds gs : List (DataW H)} {before pa pv : List MemPlace}
    (hW : DataW.Whole enc P f.params.toList s.vars apart W args.toList ds gs before)
    (hres : ∀ (b : Nat) (sp : Nat → Bool) (hd : Bool), DataW.TrodAll enc P W' b sp hd f.resultTypes.toList (v.resultList f.resultTypes.size) (s.fn H (ds ++ gs)).results [])
    (hargs : ∀ sp : Nat → Bool, (∀ p ∈ before, sp p.block = true) → DataW.TrodAll enc P W' 0 sp true f.params.toList args.toList (s.fn H (ds ++ gs)).args pa)
    (hvars : ∀ sp : Nat → Bool, (∀ p ∈ before, sp p.block = true) → DataW.TrodVars enc P W' sp s.vars (s.fn H (ds ++ gs)).vars pv)
    (hps : before = pa ++ pv) (hb : Below W.heap.size W W')
    (hok : ∀ (j : Nat) (t : TypeId) (r : Value), f.resultTypes[j]? = some t → (v.resultList f.resultTypes.size)[j]? = some r → Value.okWide P W' .any 0 t r) :
    s.post enc P f apart fresh handsOn again W args v W' := by
  have hlt : ∀ p ∈ before, p.block < W.heap.size := fun p hp => hW.lt p hp
  have hold : ∀ p ∈ before, (fun b => decide (b < W.heap.size)) p.block = true := fun p hp => by simpa using hlt p hp
  refine ⟨ds, gs, before, [], pa, pv, hW, hres _ _ _, hargs _ hold, hvars _ hold, World.keptBut_mono (fun p hp => ⟨hp, ?_⟩) (hb.frame (· ∈ before)), fun _ => ?_⟩
  · rw [hps, List.mem_append] at hp
    exact Or.inr hp
  · obtain ⟨_, _, _, _, _, hz, hn⟩ := hW
    refine ⟨hok, _, _, ([] ++ pa) ++ pv, ⟨[] ++ pa, pv, trodAll_append (hargs _ (fun _ _ => rfl)) (hres _ _ _), hvars _ (fun _ _ => rfl), rfl, ?_, ?_⟩, ?_⟩
    · intro b off hp
      have hin : MemPlace.cell b off ∈ before := by rw [hps]; simpa using hp
      rw [hb.frozen (hlt _ hin)]
      exact hz b off hin
    · intro ha
      have := hn ha
      rw [hps] at this
      simpa using this
    · intro p hp _
      rw [hps]
      simpa using hp
theorem law_contract {H : Type} {enc : TypeId × Value → H} {P : Program} {f : FuncId} {fn : Func} {s : ChangeSpec} {apart fresh handsOn again : Bool} {sem : CallSem} {tys : List (Ty × Bool)} {d : Nat} {tb : TypeId}
    (hs : SoundCall P f sem) (has : argTys P d fn.params.toList = some tys) (hrows : rowsOk P fn.params.toList = true) (hl : laidOutB P = true)
    (hres : fn.resultTypes = #[tb]) (htb : P.underlying tb = some .bool) (hvars : s.vars = [])
    (hspec : ∀ ds : List (DataW H), ds.length = tys.length → s.fn H ds = { results := [.lit (.bool true)], args := ds })
    (law : ∀ (σ : Heap) (us : List V), AllRo σ → ArgsOk σ tys us → sem us σ fun r _ => r = .bool true)
    {W : World} {base : Nat} {args : Array Value} {ds gs : List (DataW H)} {before : List MemPlace}
    (hval : ∀ (j : Nat) t v, fn.params[j]? = some t → args[j]? = some v → Value.okWide P W .any base t v)
    (hW : DataW.Whole enc P fn.params.toList s.vars apart W args.toList ds gs before) :
    Calls P f args W fun e W' => ∃ v, e = .returned v ∧ s.post enc P fn apart fresh handsOn again W args v W' := by
  have hW' := hW
  obtain ⟨p, q, hA, hV, rfl, hfz, hnd⟩ := hW
  rw [hvars] at hV
  obtain ⟨rfl, rfl⟩ := trodVars_none hV
  rw [List.append_nil] at hW'
  obtain ⟨ι, e, us, H1, _, R1, A1, L1, C1⟩ := built_args (d := d) has hA (fun j t v hj hv => hval j t v (by simpa using hj) (by simpa using hv)) (fun _ => ⟨0, 0, 0⟩) [] ⟨by simp, by simp, by simp, by simp⟩ (fun l b h => by simp at h)
  simp only [List.nil_append] at H1 R1 A1 C1
  have hc := hs ι e W us args.toList _ H1 ⟨L1, fun i u v hu hv => (C1 i u v hu hv).2⟩ (law e us R1 A1)
  have hlen : ds.length = tys.length := by
    have h1 : ∀ {ts : List TypeId} {tys : List (Ty × Bool)}, argTys P d ts = some tys → tys.length = ts.length := by
      intro ts
      induction ts with
      | nil => intro tys h; cases h; rfl
      | cons t ts ih =>
        intro tys h
        unfold argTys at h
        split at h
        · rename_i a b _ hb
          cases h
          simp [ih hb]
        · cases h
    have h2 : ∀ {ts : List TypeId} {vs : List Value} {ds : List (DataW H)} {ps : List MemPlace}, DataW.TrodAll enc P W 0 (fun _ => true) true ts vs ds ps → ds.length = ts.length := by
      intro ts
      induction ts with
      | nil => intro vs ds ps h; obtain ⟨_, rfl, _⟩ := trodAll_nil h; rfl
      | cons t ts ih =>
        intro vs ds ps h
        obtain ⟨v, vs', x, ds', p, q, rfl, rfl, rfl, _, g2⟩ := trodAll_cons h
        simp [ih g2]
    rw [h1 has, h2 hA]
  refine (Calls.mono (by simpa using hc) fun en W' hd => ?_ : Calls P f args W _)
  obtain ⟨x, r, σ', ι', rfl, rfl, hx, _, hstep⟩ := hd
  have hx' := hx (fun _ => 0)
  cases hx'
  have hb : Below W.heap.size W W' := ⟨hstep.os, hstep.tape, hstep.output, hstep.size, fun k hk => hstep.frame k hk fun l blk hl hk' => by have := R1 l blk hl; rw [hk'] at this; cases this⟩
  have hfn := hspec (ds ++ []) (by simpa using hlen)
  have hlt : ∀ x ∈ p, x.block < W.heap.size := fun x hx => hW'.lt x hx
  refine ⟨_, rfl, post_of_under (pa := p) (pv := []) hW' (fun _ _ _ => ?_) (fun sp hsp => ?_) (fun sp _ => ?_) (by simp) hb (ok_one hres rfl (okWide_bool_mk htb true))⟩
  · rw [hfn, hres]
    exact trodAll_cons_mk (shut_bool htb true) trodAll_mk0
  · rw [hfn]
    simp only [List.append_nil]
    exact trodAll_stays hl hrows hA (fun x hx => hb.same (hlt x hx)) hsp
  · rw [hfn, hvars]
    rfl
open Go.ChangeShapes
mutual
def CT.wf : (t : CT) → t.D → Prop
  | .int k, n => (Lit.int k n).wf = true
  | .bool, _ => True
  | .str, s => s.length ≤ maxLen
  | .ifc, _ => True
  | .sl r, l => @List.length r.D l ≤ maxLen ∧ ∀ x : r.D, @Membership.mem r.D (List r.D) inferInstance l x → RT.wf r x
def RT.wf : (r : RT) → r.D → Prop
  | .one t, x => CT.wf t x
  | .cons t r, x => CT.wf t x.1 ∧ RT.wf r x.2
end
def AgX.wf : (l : List (Ql × CT)) → AgX l → Prop
  | [], _ => True
  | [a], x => a.2.wf x
  | a :: b :: r, x => a.2.wf x.1 ∧ AgX.wf (b :: r) x.2
def HT.wf : (h : HT) → h.D → Prop
  | .one _ t, x => t.wf x
  | .agg l, x => AgX.wf l x
def TuX.wf : (l : List HT) → TuX l → Prop
  | [], _ => True
  | [a], x => a.wf x
  | a :: b :: r, x => a.wf x.1 ∧ TuX.wf (b :: r) x.2
def rtOf : List CT → RT
  | [] => .one .bool
  | [a] => .one a
  | a :: b :: r => .cons a (rtOf (b :: r))
def Ty.cts : Ty → List CT
  | .int k => [.int k]
  | .bool => [.bool]
  | .str => [.str]
  | .sl t => [.sl (rtOf t.cts)]
  | .unit => []
  | .pair a b => a.cts ++ b.cts
def Ty.good : Ty → Bool
  | .sl t => Nat.blt 0 t.w && t.good
  | .pair a b => a.good && b.good
  | _ => true
def htOf : Ty × Bool → HT
  | (ty, true) => .agg (ty.cts.map fun t => (.frz, t))
  | (ty, false) => match ty.cts with | [c] => .one .frz c | _ => .agg []
def argGood : Ty × Bool → Bool
  | (ty, true) => ty.good
  | (ty, false) => ty.good && ty.cts.length == 1
def DL : List CT → Type
  | [] => Unit
  | a :: r => a.D × DL r
def DL.wf : (l : List CT) → DL l → Prop
  | [], _ => True
  | a :: r, x => a.wf x.1 ∧ DL.wf r x.2
def DL.enc : (l : List CT) → DL l → List PV
  | [], _ => []
  | a :: r, x => CT.enc a x.1 :: DL.enc r x.2
def DL.encF : (l : List CT) → DL l → List PV
  | [], _ => []
  | a :: r, x => (CT.dv .frz a x.1).enc :: DL.encF r x.2
def DL.app : (l m : List CT) → DL l → DL m → DL (l ++ m)
  | [], _, _, y => y
  | _ :: l, m, x, y => (x.1, DL.app l m x.2 y)
theorem DL.app_enc : ∀ (l m : List CT) (x : DL l) (y : DL m), DL.enc (l ++ m) (DL.app l m x y) = DL.enc l x ++ DL.enc m y
  | [], _, _, _ => rfl
  | a :: l, m, x, y => by
    show CT.enc a x.1 :: DL.enc (l ++ m) (DL.app l m x.2 y) = CT.enc a x.1 :: (DL.enc l x.2 ++ DL.enc m y)
    rw [DL.app_enc l m x.2 y]
theorem DL.app_encF : ∀ (l m : List CT) (x : DL l) (y : DL m), DL.encF (l ++ m) (DL.app l m x y) = DL.encF l x ++ DL.encF m y
  | [], _, _, _ => rfl
  | a :: l, m, x, y => by
    show (CT.dv .frz a x.1).enc :: DL.encF (l ++ m) (DL.app l m x.2 y) = (CT.dv .frz a x.1).enc :: (DL.encF l x.2 ++ DL.encF m y)
    rw [DL.app_encF l m x.2 y]
theorem DL.app_wf : ∀ (l m : List CT) (x : DL l) (y : DL m), DL.wf l x → DL.wf m y → DL.wf (l ++ m) (DL.app l m x y)
  | [], _, _, _, _, h => h
  | _ :: l, m, x, y, h, h' => ⟨h.1, DL.app_wf l m x.2 y h.2 h'⟩
theorem DL.len : ∀ (l : List CT) (x : DL l), (DL.enc l x).length = l.length
  | [], _ => rfl
  | _ :: l, x => by show _ + 1 = _ + 1; rw [DL.len l x.2]
theorem DL.lenF : ∀ (l : List CT) (x : DL l), (DL.encF l x).length = l.length
  | [], _ => rfl
  | _ :: l, x => by show _ + 1 = _ + 1; rw [DL.lenF l x.2]
def DL.rt : (l : List CT) → DL l → (rtOf l).D
  | [], _ => false
  | [_], x => x.1
  | _ :: b :: r, x => (x.1, DL.rt (b :: r) x.2)
theorem DL.rt_enc : ∀ (l : List CT) (x : DL l), l ≠ [] → RT.enc (rtOf l) (DL.rt l x) = DL.enc l x
  | [], _, h => absurd rfl h
  | [_], _, _ => rfl
  | a :: b :: r, x, _ => by
    show CT.enc a x.1 :: RT.enc (rtOf (b :: r)) (DL.rt (b :: r) x.2) = CT.enc a x.1 :: DL.enc (b :: r) x.2
    rw [DL.rt_enc (b :: r) x.2 (by simp)]
theorem DL.rt_wf : ∀ (l : List CT) (x : DL l), l ≠ [] → DL.wf l x → RT.wf (rtOf l) (DL.rt l x)
  | [], _, h, _ => absurd rfl h
  | [_], _, _, h => h.1
  | a :: b :: r, x, _, h => ⟨h.1, DL.rt_wf (b :: r) x.2 (by simp) h.2⟩
def DL.ag : (l : List CT) → DL l → AgX (l.map fun t => (Ql.frz, t))
  | [], _ => ()
  | [_], x => x.1
  | _ :: b :: r, x => (x.1, DL.ag (b :: r) x.2)
theorem DL.ag_enc : ∀ (l : List CT) (x : DL l), DV.encL (agDv (l.map fun t => (Ql.frz, t)) (DL.ag l x)) = DL.encF l x
  | [], _ => rfl
  | [_], _ => rfl
  | a :: b :: r, x => by
    show (CT.dv .frz a x.1).enc :: DV.encL (agDv ((b :: r).map fun t => (Ql.frz, t)) (DL.ag (b :: r) x.2)) = (CT.dv .frz a x.1).enc :: DL.encF (b :: r) x.2
    rw [DL.ag_enc (b :: r) x.2]
theorem DL.ag_wf : ∀ (l : List CT) (x : DL l), DL.wf l x → AgX.wf (l.map fun t => (Ql.frz, t)) (DL.ag l x)
  | [], _, _ => trivial
  | [_], _, h => h.1
  | a :: b :: r, x, h => ⟨h.1, DL.ag_wf (b :: r) x.2 h.2⟩
theorem cts_len : ∀ (t : Ty), t.cts.length = t.w
  | .int _ | .bool | .str | .sl _ | .unit => rfl
  | .pair a b => by simp only [Ty.cts, Ty.w, List.length_append, cts_len a, cts_len b]
def ωro (σ : Heap) : Nat → W := fun l => if l < σ.length then .frz else .none
theorem ωro_frz {σ : Heap} {l : Nat} {b : Blk} (h : σ[l]? = some b) : ωro σ l = .frz := by
  unfold ωro; rw [if_pos (get_len h)]
theorem pget_app_left : ∀ (a b : List PV) (i : Nat), i < a.length → pget (a ++ b) i = pget a i
  | [], _, _, h => by cases h
  | _ :: _, _, 0, _ => rfl
  | _ :: a, b, i + 1, h => pget_app_left a b i (by simpa using h)
theorem pget_app_right : ∀ (a b : List PV) (i : Nat), pget (a ++ b) (a.length + i) = pget b i
  | [], _, _ => by simp
  | _ :: a, b, i => by
    have := pget_app_right a b i
    simp only [List.cons_append, List.length_cons, Nat.add_right_comm]
    exact this
theorem get_app_left : ∀ (a b : List V) (i : Nat), i < a.length → get (a ++ b) i = get a i
  | [], _, _, h => by cases h
  | _ :: _, _, 0, _ => rfl
  | _ :: a, b, i + 1, h => get_app_left a b i (by simpa using h)
theorem get_app_right : ∀ (a b : List V) (i : Nat), get (a ++ b) (a.length + i) = get b i
  | [], _, _ => by simp
  | _ :: a, b, i => by
    have := get_app_right a b i
    simp only [List.cons_append, List.length_cons, Nat.add_right_comm]
    exact this
theorem get_drop_take : ∀ (l : List V) (o n i : Nat), i < n → get ((l.drop o).take n) i = get l (o + i)
  | [], o, n, i, _ => by simp [get]
  | c :: r, 0, 0, i, h => by cases h
  | c :: r, 0, n + 1, 0, _ => rfl
  | c :: r, 0, n + 1, i + 1, h => by
    have := get_drop_take r 0 n i (by omega)
    simp only [Nat.zero_add] at this
    simp only [List.drop_zero, List.take_succ_cons, get, Nat.zero_add]
    simpa using this
  | c :: r, o + 1, n, i, h => by
    have := get_drop_take r o n i h
    rw [List.drop_succ_cons, this, Nat.add_right_comm]
    rfl
theorem pget_flat {w : Nat} : ∀ (es : List (List PV)) (i j : Nat), (∀ e ∈ es, e.length = w) → j < w → i < es.length → pget es.flatten (i * w + j) = pget (elt es i) j
  | [], i, _, _, _, h => by cases h
  | e :: r, 0, j, hw, hj, _ => by
    have he := hw e (List.mem_cons_self ..)
    rw [Nat.zero_mul, Nat.zero_add, List.flatten_cons, pget_app_left _ _ _ (by omega)]
    rfl
  | e :: r, i + 1, j, hw, hj, h => by
    have he := hw e (List.mem_cons_self ..)
    rw [List.flatten_cons, show (i + 1) * w + j = e.length + (i * w + j) by rw [he, Nat.succ_mul]; omega, pget_app_right]
    exact pget_flat r i j (fun e h => hw e (List.mem_cons_of_mem _ h)) hj (by simpa using h)
theorem elt_map' {α : Type} (f : α → List PV) : ∀ (l : List α) (i : Nat) (h : i < l.length), elt (l.map f) i = f l[i]
  | [], _, h => by cases h
  | _ :: _, 0, _ => rfl
  | _ :: l, i + 1, h => elt_map' f l i (by simpa using h)
theorem sh_data {σ : Heap} : ∀ (ty : Ty) {cs : List V}, ty.good = true → Sh σ ty cs → ∃ x : DL ty.cts, DL.wf ty.cts x ∧
    (∀ i, RC σ (ωro σ) .fz (pget (DL.enc ty.cts x) i) (get cs i)) ∧ ∀ i hd p, RC σ (ωro σ) (.at hd p) (pget (DL.encF ty.cts x) i) (get cs i)
  | .int k, cs, _, ⟨n, h, hw⟩ => by
    subst h
    exact ⟨(n, ()), ⟨hw, trivial⟩, fun i => by cases i <;> first | exact .v _ _ rfl | exact .undef _ _, fun i hd p => by cases i <;> first | exact .v _ _ rfl | exact .undef _ _⟩
  | .bool, cs, _, ⟨b, h⟩ => by
    subst h
    exact ⟨(b, ()), ⟨trivial, trivial⟩, fun i => by cases i <;> first | exact .v _ _ rfl | exact .undef _ _, fun i hd p => by cases i <;> first | exact .v _ _ rfl | exact .undef _ _⟩
  | .str, cs, _, ⟨s, h, hl⟩ => by
    subst h
    exact ⟨(s, ()), ⟨hl, trivial⟩, fun i => by cases i <;> first | exact .v _ _ rfl | exact .undef _ _, fun i hd p => by cases i <;> first | exact .v _ _ rfl | exact .undef _ _⟩
  | .unit, cs, _, h => by
    have h : cs = [] := h
    subst h
    exact ⟨(), trivial, fun i => .undef _ _, fun i hd p => .undef _ _⟩
  | .pair a b, cs, hg, ⟨xs, ys, h, h1, h2⟩ => by
    simp only [Ty.good, Bool.and_eq_true] at hg
    obtain ⟨x, x1, x2, x3⟩ := sh_data a hg.1 h1
    obtain ⟨y, y1, y2, y3⟩ := sh_data b hg.2 h2
    have hl := h1.len
    subst h
    refine ⟨DL.app _ _ x y, DL.app_wf _ _ x y x1 y1, fun i => ?_, fun i hd p => ?_⟩
    · simp only [Ty.cts]
      rw [DL.app_enc]
      by_cases hi : i < a.w
      · rw [pget_app_left _ _ _ (by rw [DL.len, cts_len]; exact hi), get_app_left _ _ _ (by rw [hl]; exact hi)]
        exact x2 i
      · obtain ⟨j, rfl⟩ := Nat.exists_eq_add_of_le (Nat.le_of_not_lt hi)
        have e1 := pget_app_right (DL.enc a.cts x) (DL.enc b.cts y) j
        have e2 := get_app_right xs ys j
        rw [DL.len, cts_len] at e1
        rw [hl] at e2
        rw [e1, e2]
        exact y2 j
    · simp only [Ty.cts]
      rw [DL.app_encF]
      by_cases hi : i < a.w
      · rw [pget_app_left _ _ _ (by rw [DL.lenF, cts_len]; exact hi), get_app_left _ _ _ (by rw [hl]; exact hi)]
        exact x3 i hd p
      · obtain ⟨j, rfl⟩ := Nat.exists_eq_add_of_le (Nat.le_of_not_lt hi)
        have e1 := pget_app_right (DL.encF a.cts x) (DL.encF b.cts y) j
        have e2 := get_app_right xs ys j
        rw [DL.lenF, cts_len] at e1
        rw [hl] at e2
        rw [e1, e2]
        exact y3 j hd p
  | .sl t, cs, hg, h => by
    simp only [Ty.good, Bool.and_eq_true] at hg
    have hw0 : 0 < t.w := Nat.le_of_ble_eq_true hg.1
    have hne : t.cts ≠ [] := by intro e; have := cts_len t; rw [e] at this; simp only [List.length_nil] at this; omega
    rcases h with h | ⟨l, n, bs, h, hb, hbl, hn, he⟩
    · subst h
      refine ⟨(([] : List (rtOf t.cts).D), ()), ⟨⟨Nat.zero_le _, fun x hx => by cases hx⟩, trivial⟩, fun i => ?_, fun i hd p => ?_⟩
      · cases i <;> first | exact .nil _ _ | exact .undef _ _
      · cases i <;> first | exact .nil _ _ | exact .undef _ _
    · subst h
      have ex : ∀ i, ∃ x : DL t.cts, i < n → DL.wf t.cts x ∧ (∀ k, RC σ (ωro σ) .fz (pget (DL.enc t.cts x) k) (get ((bs.drop (i * t.w)).take t.w) k)) := by
        intro i
        by_cases hi : i < n
        · obtain ⟨x, h1, h2, _⟩ := sh_data t hg.2 (he i hi)
          exact ⟨x, fun _ => ⟨h1, h2⟩⟩
        · have h0 : ∀ l : List CT, Nonempty (DL l) := by
            intro l
            induction l with
            | nil => exact ⟨()⟩
            | cons a r ih => obtain ⟨y⟩ := ih; exact ⟨(a.dflt, y)⟩
          obtain ⟨y⟩ := h0 t.cts
          exact ⟨y, fun h => absurd h hi⟩
      let f : Nat → DL t.cts := fun i => Classical.choose (ex i)
      have hf : ∀ i, i < n → DL.wf t.cts (f i) ∧ ∀ k, RC σ (ωro σ) .fz (pget (DL.enc t.cts (f i)) k) (get ((bs.drop (i * t.w)).take t.w) k) := fun i hi => Classical.choose_spec (ex i) hi
      let L : List (rtOf t.cts).D := (List.range n).map fun i => DL.rt t.cts (f i)
      have hL : L.length = n := by simp [L]
      have hLw : ∀ e ∈ L.map (RT.enc (rtOf t.cts)), e.length = t.w := by
        intro e he
        obtain ⟨y, hy, rfl⟩ := List.mem_map.mp he
        obtain ⟨i, _, rfl⟩ := List.mem_map.mp hy
        rw [DL.rt_enc _ _ hne, DL.len, cts_len]
      have hcell : ∀ k, k < L.length * t.w → RC σ (ωro σ) .fz (pget (L.map (RT.enc (rtOf t.cts))).flatten k) (get bs (0 + k)) := by
        intro k hk
        have hdm : k / t.w * t.w + k % t.w = k := by rw [Nat.mul_comm]; exact Nat.div_add_mod k t.w
        have hmod := Nat.mod_lt k hw0
        have hdiv : k / t.w < n := by rw [hL] at hk; exact (Nat.div_lt_iff_lt_mul hw0).2 hk
        have e1 := pget_flat (L.map (RT.enc (rtOf t.cts))) (k / t.w) (k % t.w) hLw hmod (by rw [List.length_map, hL]; exact hdiv)
        rw [hdm] at e1
        rw [e1, elt_map' _ _ _ (by rw [hL]; exact hdiv), Nat.zero_add]
        have e2 := get_drop_take bs (k / t.w * t.w) t.w (k % t.w) hmod
        rw [hdm] at e2
        have e3 : L[k / t.w]'(by rw [hL]; exact hdiv) = DL.rt t.cts (f (k / t.w)) := by simp [L]
        rw [e3, DL.rt_enc _ _ hne, ← e2]
        exact (hf _ hdiv).2 _
      have hwf : ∀ x ∈ L, RT.wf (rtOf t.cts) x := by
        intro x hx
        obtain ⟨i, hi, rfl⟩ := List.mem_map.mp hx
        exact DL.rt_wf _ _ hne (hf i (List.mem_range.mp hi)).1
      have hle : 0 + (L.map (RT.enc (rtOf t.cts))).length * t.w ≤ bs.length := by rw [List.length_map, hL, hbl]; omega
      refine ⟨(L, ()), ⟨⟨by rw [hL]; exact hn, hwf⟩, trivial⟩, fun i => ?_, fun i hd p => ?_⟩
      · cases i with
        | succ i => exact .undef _ _
        | zero => exact .sl _ _ _ _ _ _ _ hb (by simp) (ωro_frz hb) (fun e => by cases e) (by rw [List.length_map, hL]) hLw hle fun k hk => hcell k (by rw [List.length_map] at hk; exact hk)
      · cases i with
        | succ i => exact .undef _ _
        | zero => exact .sl _ _ _ _ _ _ _ hb (by simp) (ωro_frz hb) (fun _ e => by rcases e with e | ⟨_, _, e⟩ <;> cases e) (by rw [List.length_map, hL]) hLw hle fun k hk => hcell k (by rw [List.length_map] at hk; exact hk)
structure ArgD (σ : Heap) (v : PV) (u : V) : Prop where
  rc : ∀ hd p c, RC σ (ωro σ) (.at hd p) (v.fcell c) (u.fcell c)
  sh : Shp v u
  nx : ∀ c i pb tp, (v.fcell c).q ≠ some (.bor (.x i) pb tp)
theorem cell_sc {v : V} (h : v.cell = true) : (∀ us, v ≠ .agg us) ∧ ∀ us, v ≠ .tup us := by
  constructor <;> rintro us rfl <;> cases h
theorem frz_q : ∀ (l : List CT) (x : DL l) (i : Nat) (a : Hd) (pb : List Nat) (tp : Bool), (pget (DL.encF l x) i).q ≠ some (.bor a pb tp)
  | [], _, _, _, _, _ => by simp [DL.encF, pget, PV.q]
  | c :: r, x, 0, a, pb, tp => by cases c <;> simp [DL.encF, pget, CT.dv, DV.enc, PV.q]
  | _ :: r, x, i + 1, a, pb, tp => frz_q r x.2 i a pb tp
theorem arg_data {σ : Heap} {a : Ty × Bool} {u : V} (hg : argGood a = true) (h : ArgOk σ a u) : ∃ x : (htOf a).D, (htOf a).wf x ∧ ArgD σ ((htOf a).dv x).enc u := by
  obtain ⟨ty, b⟩ := a
  cases b with
  | true =>
    obtain ⟨cs, rfl, hs, hc⟩ := h
    obtain ⟨x, h1, _, h3⟩ := sh_data ty hg hs
    have hle := hs.len
    refine ⟨DL.ag ty.cts x, DL.ag_wf _ _ h1, ?_⟩
    have he : ((htOf (ty, true)).dv (DL.ag ty.cts x)).enc = .agg (DL.encF ty.cts x) := by
      show PV.agg _ = PV.agg _
      rw [DL.ag_enc]
    rw [he]
    refine ⟨fun hd p c => ?_, ⟨cs, rfl, by rw [hle, DL.lenF, cts_len]⟩, fun c i pb tp => ?_⟩
    · match c with
      | [] => exact .undef _ _
      | [c] => exact h3 c hd p
      | _ :: _ :: _ => exact .undef _ _
    · match c with
      | [] => simp [PV.fcell, PV.q]
      | [c] => exact frz_q _ _ _ _ _ _
      | _ :: _ :: _ => simp [PV.fcell, PV.q]
  | false =>
    obtain ⟨hs, hc⟩ := h
    simp only [argGood, Bool.and_eq_true, beq_iff_eq] at hg
    obtain ⟨x, h1, _, h3⟩ := sh_data ty hg.1 hs
    have key : ∀ (l : List CT) (x : DL l), l.length = 1 → DL.wf l x → (∀ i hd p, RC σ (ωro σ) (.at hd p) (pget (DL.encF l x) i) (get [u] i)) →
        ∃ y : (match l with | [c] => HT.one .frz c | _ => HT.agg []).D, (match l with | [c] => HT.one .frz c | _ => HT.agg []).wf y ∧ ArgD σ ((match l with | [c] => HT.one .frz c | _ => HT.agg []).dv y).enc u := by
      intro l x hl hwf h3
      match l, x, hl, hwf, h3 with
      | [c], x, _, hwf, h3 =>
        have hsc := cell_sc hc
        have hnf : ∀ p, p ≠ [0] → ((CT.dv .frz c x.1).enc).fcell p = .fl .undef := by
          intro p hp
          cases c <;> (match p with | [] => rfl | [0] => exact absurd rfl hp | (_ + 1) :: _ => rfl | 0 :: _ :: _ => rfl)
        have hf0 : ((CT.dv .frz c x.1).enc).fcell [0] = (CT.dv .frz c x.1).enc := by cases c <;> rfl
        have hu0 : u.fcell [0] = u := by cases u <;> first | rfl | exact absurd rfl (hsc.1 _) | exact absurd rfl (hsc.2 _)
        refine ⟨x.1, hwf.1, ⟨fun hd p q => ?_, ?_, fun q i pb tp => ?_⟩⟩
        · by_cases hq : q = [0]
          · subst hq
            show RC σ (ωro σ) (.at hd p) (((CT.dv .frz c x.1).enc).fcell [0]) (u.fcell [0])
            rw [hf0, hu0]; exact h3 0 hd p
          · show RC σ (ωro σ) (.at hd p) (((CT.dv .frz c x.1).enc).fcell q) (u.fcell q)
            rw [hnf q hq]; exact .undef _ _
        · show Shp ((CT.dv .frz c x.1).enc) u
          cases c <;> exact hsc
        · show (((CT.dv .frz c x.1).enc).fcell q).q ≠ _
          by_cases hq : q = [0]
          · subst hq
            rw [hf0]; exact frz_q [c] x 0 _ _ _
          · rw [hnf q hq]; simp [PV.q]
    exact key ty.cts x hg.2 h1 h3
theorem args_data {σ : Heap} : ∀ {tys : List (Ty × Bool)} {us : List V}, tys.all argGood = true → ArgsOk σ tys us → ∃ x : TuX (tys.map htOf), TuX.wf _ x ∧ us.length = tys.length ∧
    ∀ t, ArgD σ (pget (DV.encL (tuDv (tys.map htOf) x)) t) (get us t)
  | [], [], _, _ => ⟨(), trivial, rfl, fun t => ⟨fun hd p c => by
      have : (PV.fl V.undef).fcell c = .fl .undef := by match c with | [] => rfl | [0] => rfl | (_ + 1) :: _ => rfl | 0 :: _ :: _ => rfl
      show RC σ (ωro σ) (.at hd p) ((PV.fl V.undef).fcell c) _
      rw [this]; exact .undef _ _, trivial, fun c i pb tp => by
      have : (PV.fl V.undef).fcell c = .fl .undef := by match c with | [] => rfl | [0] => rfl | (_ + 1) :: _ => rfl | 0 :: _ :: _ => rfl
      show ((PV.fl V.undef).fcell c).q ≠ _
      rw [this]; simp [PV.q]⟩⟩
  | [a], [u], hg, h => by
    simp only [List.all_cons, List.all_nil, Bool.and_true] at hg
    obtain ⟨x, h1, h2⟩ := arg_data hg h.1
    obtain ⟨_, _, _, h4⟩ := args_data (σ := σ) (tys := []) (us := []) rfl trivial
    refine ⟨x, h1, rfl, fun t => ?_⟩
    cases t with
    | zero => exact h2
    | succ t => exact h4 t
  | a :: b :: r, u :: us, hg, h => by
    rw [List.all_cons, Bool.and_eq_true] at hg
    obtain ⟨x, h1, h2⟩ := arg_data hg.1 h.1
    obtain ⟨y, h3, h4, h5⟩ := args_data (tys := b :: r) (us := us) hg.2 h.2
    refine ⟨(x, y), ⟨h1, h3⟩, by simp [h4], fun t => ?_⟩
    cases t with
    | zero => exact h2
    | succ t => exact h5 t
  | [_], _ :: _ :: _, _, h => h.2.elim
  | [_], [], _, h => h.elim
  | _ :: _ :: _, [], _, h => h.elim
  | [], _ :: _, _, h => h.elim
theorem entry {σ : Heap} {as : List PV} {us : List V} (hl : as.length = us.length) (h : ∀ t, ArgD σ (pget as t) (get us t)) : RS σ (ωro σ) (ωro σ) (fun _ => 0) ⟨as, [], []⟩ ⟨us, [], σ⟩ X0 := by
  have no : ∀ l hd p, ωro σ l ≠ .own hd p := by intro l hd p e; unfold ωro at e; split at e <;> cases e
  have nop : ∀ l i, ωro σ l ≠ .ptr i := by intro l i e; unfold ωro at e; split at e <;> cases e
  have hund : ∀ c, (PV.fl V.undef).fcell c = .fl .undef := by
    intro c; match c with | [] => rfl | [0] => rfl | (_ + 1) :: _ => rfl | 0 :: _ :: _ => rfl
  have cat : ∀ (c : List Nat) (l : List V), (cellAt [] l c).1 = .fl .undef := by
    intro c l; match c with | [] => rfl | [_] => rfl | _ :: _ :: _ => rfl
  refine ⟨⟨fun hd p => ?_, fun l l' hd p e => absurd e (no l hd p), fun l l' i e => absurd e (nop l i), fun l e => ?_, fun l e => ?_⟩, fun t => (h t).sh, fun i => trivial, hl, rfl, fun i => rfl, fun i c => rfl, fun i c => rfl, fun i hi => (by cases hi), fun l i e => absurd e (nop l i), fun l i p e => absurd e (no l _ p), ⟨Nat.le_refl _, fun l _ _ => ⟨rfl, rfl⟩, fun l hlt e => (by rw [e]; simp), fun l i e => e⟩, fun hd p i pb tp => ?_⟩
  · cases hd with
    | s t => exact (h t).rc _ _ _
    | b i => show RC σ (ωro σ) _ (cellAt [] (getB [] i) p).1 _; rw [cat]; exact .undef _ _
    | h i => show RC σ (ωro σ) _ (cellAt [] _ p).1 _; rw [cat]; exact .undef _ _
    | x i => show RC σ (ωro σ) _ ((PV.fl V.undef).fcell p) _; rw [hund]; exact .undef _ _
  · rcases e with ⟨hd, p, e⟩ | ⟨i, e⟩
    · exact absurd e (no l hd p)
    · exact absurd e (nop l i)
  · unfold ωro at e; split at e
    · assumption
    · cases e
  · cases hd with
    | s t => exact (h t).nx p i pb tp
    | b j => show (cellAt [] (getB [] j) p).1.q ≠ _; rw [cat]; simp [PV.q]
    | h j => show (cellAt [] _ p).1.q ≠ _; rw [cat]; simp [PV.q]
    | x j => show ((PV.fl V.undef).fcell p).q ≠ _; rw [hund]; simp [PV.q]
theorem law_of {f : DFun} {tys : List (Ty × Bool)} {hs : List HT} {s : CallSem} (hsp : SoundP s (pfunSem f.er)) (hhs : tys.map htOf = hs) (hg : tys.all argGood = true) (ho : AllD f.body.obs)
    (hst : fnSt f hs (.one (.one .own .bool)) = true) (hc : ∀ x, fnChk f hs (.one (.one .own .bool)) x = true)
    (law : ∀ x : TuX hs, TuX.wf hs x → fnOk f hs (.one (.one .own .bool)) x ∧ fnV f hs (.one (.one .own .bool)) x = true) (σ : Heap) (us : List V) (hro : AllRo σ) (ha : ArgsOk σ tys us) : s us σ fun r _ => r = .bool true := by
  subst hhs
  obtain ⟨x, h1, h2, h3⟩ := args_data hg ha
  obtain ⟨l1, l2⟩ := law x h1
  have hlen : (DV.encL (tuDv (tys.map htOf) x)).length = us.length := by rw [encL_len, tuDv_len, List.length_map, h2]
  refine hsp σ (ωro σ) (fun _ => 0) _ us [] (fun r _ => r = .fl (.bool true)) _ (entry hlen h3) (fun l hd p e => ?_) ?_ fun u h' r H' ω' ρ' hQ R' _ => ?_
  · exfalso; unfold ωro at e; split at e <;> cases e
  · refine fn_sound ho hst x (hc x) l1 fun H => ?_
    rw [l2]
    rfl
  · subst hQ
    have r := R'.core.rc (.x 0) [0]
    have hs := R'.shx 0
    have r : RC h' ω' (.at (.x 0) [0]) (.fl (.bool true)) (u.fcell [0]) := r
    have hu : u.fcell [0] = u := by
      have hs : Shp (.fl (.bool true)) u := hs
      cases u <;> first | rfl | exact absurd rfl (hs.1 _) | exact absurd rfl (hs.2 _)
    rw [hu] at r
    cases r
    rfl
theorem bNot_eq (a : Bool) : bNot a = !a := by simp only [bNot_u]
theorem bAnd_eq (a b : Bool) : bAnd a b = (a && b) := by simp only [bAnd_u]
theorem bOr_eq (a b : Bool) : bOr a b = (a || b) := by simp only [bOr_u]
theorem bIff_eq (a b : Bool) : bIff a b = (a == b) := by simp only [bIff_u]
theorem bSel_eq {α : Type} (c : Bool) (x y : α) : bSel c x y = if c = true then x else y := by cases c <;> simp [bSel_t, bSel_f]
theorem iEq_eq (a b : Int) : iEq a b = decide (a = b) := by
  rw [iEq_u]; by_cases h : a = b <;> simp [h]
theorem iNe_eq (a b : Int) : iNe a b = !decide (a = b) := by
  rw [iNe_u]; by_cases h : a = b <;> simp [h]
theorem iLt_eq (a b : Int) : iLt a b = decide (a < b) := by simp only [iLt_u]
theorem iLe_eq (a b : Int) : iLe a b = decide (a ≤ b) := by simp only [iLe_u]
theorem iGt_eq (a b : Int) : iGt a b = decide (b < a) := by simp only [iGt_u]
theorem iGe_eq (a b : Int) : iGe a b = decide (b ≤ a) := by simp only [iGe_u]
section
variable {α : Type}
theorem lLen_eq (l : List α) : lLen l = (l.length : Int) := by simp only [lLen_u]
theorem lN_eq (l : List α) : lN l = l.length := by simp only [lN_u]
theorem lGet_eq (l : List α) (j : Nat) (d : α) : lGet l j d = l.getD j d := by simp only [lGet_u]
theorem lSet_eq (l : List α) (j : Nat) (x : α) : lSet l j x = l.set j x := by simp only [lSet_u]
theorem lSub_eq (l : List α) (a b : Nat) : lSub l a b = (l.drop a).take (b - a) := by simp only [lSub_u]
theorem lRep_eq (n : Int) (x : α) : lRep n x = List.replicate n.toNat x := by simp only [lRep_u]
theorem iNat_eq (a : Int) : iNat a = a.toNat := by simp only [iNat_u]
end
def In64 (n : Int) : Prop := -9223372036854775808 ≤ n ∧ n ≤ 9223372036854775807
theorem wrap_i64 {n : Int} (h : In64 n) : IntKind.i64.wrap n = n := by
  obtain ⟨h1, h2⟩ := h
  show (if decide (n % 18446744073709551616 ≥ 9223372036854775808) = true then n % 18446744073709551616 - 18446744073709551616 else n % 18446744073709551616) = n
  simp only [decide_eq_true_eq]
  split <;> omega
theorem iAdd_i64 {a b : Int} (h : In64 (a + b)) : iAdd .i64 a b = a + b := by rw [iAdd_u]; exact wrap_i64 h
theorem iSub_i64 {a b : Int} (h : In64 (a - b)) : iSub .i64 a b = a - b := by rw [iSub_u]; exact wrap_i64 h
theorem iConv_i64 {a : Int} (h : In64 a) : iConv .i64 a = a := by rw [iConv_u]; exact wrap_i64 h
section
variable {X : Type} {c : X → Bool} {f : X → X} {p : X → Prop}
theorem loop_inv (I : X → Prop) (m : X → Nat) (h : ∀ x, I x → p x ∧ (c x = true → I (f x) ∧ m (f x) < m x)) {x0 : X} (h0 : I x0) :
    LoopOk c f p x0 ∧ I (loopV c f x0) ∧ c (loopV c f x0) = false := by
  have go : ∀ (n : Nat) (x : X), m x < n → I x → ∃ y, LoopTo c f p x y ∧ I y ∧ c y = false := by
    intro n
    induction n with
    | zero => intro x hm; exact absurd hm (Nat.not_lt_zero _)
    | succ n ih =>
      intro x hm hI
      obtain ⟨h1, h2⟩ := h x hI
      cases hc : c x with
      | false => exact ⟨x, .stop h1 hc, hI, hc⟩
      | true =>
        obtain ⟨h3, h4⟩ := h2 hc
        obtain ⟨y, h5, h6, h7⟩ := ih (f x) (by omega) h3
        exact ⟨y, .go h1 hc h5, h6, h7⟩
  obtain ⟨y, h1, h2, h3⟩ := go _ x0 (Nat.lt_succ_self _) h0
  rw [h1.val]
  exact ⟨⟨y, h1⟩, h2, h3⟩
theorem loop_inv_v (I : X → Prop) (m : X → Nat) (h : ∀ x, I x → c x = true → I (f x) ∧ m (f x) < m x) {x0 : X} (h0 : I x0) : I (loopV c f x0) ∧ c (loopV c f x0) = false :=
  (loop_inv (p := fun _ => True) I m (fun x hx => ⟨trivial, h x hx⟩) h0).2
theorem loop_for (n : Nat) (st : Nat → X) {x0 : X} (h0 : st 0 = x0) (hs : ∀ k, k < n → p (st k) ∧ c (st k) = true ∧ f (st k) = st (k + 1)) (he : p (st n) ∧ c (st n) = false) : LoopOk c f p x0 ∧ loopV c f x0 = st n := by
  have go : ∀ k, k ≤ n → LoopTo c f p (st (n - k)) (st n) := by
    intro k
    induction k with
    | zero => intro _; exact .stop he.1 he.2
    | succ k ih =>
      intro hk
      obtain ⟨h1, h2, h3⟩ := hs (n - (k + 1)) (by omega)
      refine .go h1 h2 ?_
      rw [h3, show n - (k + 1) + 1 = n - k by omega]
      exact ih (by omega)
  have := go n (Nat.le_refl _)
  rw [Nat.sub_self, h0] at this
  exact ⟨⟨_, this⟩, this.val⟩
end
def firstAt (t : Nat → Bool) : Nat → Nat → Nat
  | 0, i => i
  | k + 1, i => if t i then i else firstAt t k (i + 1)
theorem firstAt_le (t : Nat → Bool) : ∀ k i, i ≤ firstAt t k i ∧ firstAt t k i ≤ i + k
  | 0, i => ⟨Nat.le_refl _, Nat.le_refl _⟩
  | k + 1, i => by
    unfold firstAt
    split
    · omega
    · have := firstAt_le t k (i + 1); omega
theorem firstAt_lt (t : Nat → Bool) : ∀ k i, firstAt t k i < i + k → t (firstAt t k i) = true
  | 0, i, h => by unfold firstAt at h; omega
  | k + 1, i, h => by
    unfold firstAt at h ⊢
    split
    · rename_i ht; exact ht
    · rename_i ht
      rw [if_neg ht] at h
      exact firstAt_lt t k (i + 1) (by omega)
theorem firstAt_no (t : Nat → Bool) : ∀ k i j, i ≤ j → j < firstAt t k i → t j = false
  | 0, i, j, h, h' => by unfold firstAt at h'; omega
  | k + 1, i, j, h, h' => by
    unfold firstAt at h'
    split at h'
    · omega
    · rename_i ht
      by_cases hj : j = i
      · subst hj; simpa using ht
      · exact firstAt_no t k (i + 1) j (by omega) h'
theorem scan_loop {c : Int → Bool} {f : Int → Int} {p : Int → Prop} (n : Nat) (t : Nat → Bool) (hn : (n : Int) ≤ 9223372036854775806) (hc : ∀ i : Nat, i ≤ n → c i = (decide (i < n) && !t i)) (hf : ∀ i : Nat, i < n → f i = iAdd .i64 i 1) (hp : ∀ i : Nat, i ≤ n → p i) :
    LoopOk c f p 0 ∧ loopV c f 0 = (firstAt t n 0 : Nat) := by
  have hle := firstAt_le t n 0
  refine loop_for (firstAt t n 0) (fun k => (k : Int)) rfl (fun k hk => ?_) ⟨hp _ (by omega), ?_⟩
  · have hk' : k < n := by omega
    refine ⟨hp k (by omega), ?_, ?_⟩
    · rw [hc k (by omega), firstAt_no t n 0 k (by omega) hk]; simp [hk']
    · rw [hf k hk', iAdd_i64 (by unfold In64; omega)]; omega
  · rw [hc _ (by omega)]
    by_cases h : firstAt t n 0 < n
    · rw [firstAt_lt t n 0 (by omega)]; simp
    · simp [h]
theorem firstAt_all {t : Nat → Bool} {n : Nat} : firstAt t n 0 = n ↔ ∀ i, i < n → t i = false := by
  constructor
  · intro h i hi; exact firstAt_no t n 0 i (by omega) (by omega)
  · intro h
    have hle := firstAt_le t n 0
    rcases Nat.lt_or_ge (firstAt t n 0) n with h1 | h1
    · have := firstAt_lt t n 0 (by omega); rw [h _ h1] at this; cases this
    · omega
section
variable {α : Type}
theorem set_take (x : List α) (k : Nat) (hk : k < x.length) (d : α) (l : List α) (hl : l.length = x.length) (h : l.take k = x.take k) : (l.set k (x.getD k d)).take (k + 1) = x.take (k + 1) := by
  rw [List.take_add_one, List.take_add_one, List.take_set]
  have : (l.take k).set k (x.getD k d) = l.take k := by
    apply List.set_eq_of_length_le; rw [List.length_take]; exact Nat.min_le_left _ _
  rw [this, h]
  congr 1
  rw [List.getElem?_set_self (by omega), List.getD_eq_getElem?_getD, List.getElem?_eq_getElem hk]
  simp
end
theorem eq_loop {α : Type} {c : Int → Bool} {f : Int → Int} {p : Int → Prop} (a b : List α) (d : α) (ne : Nat → Bool) (hl : a.length = b.length) (hne : ∀ i, i < a.length → (ne i = false ↔ a.getD i d = b.getD i d)) (hn : (a.length : Int) ≤ 9223372036854775806) (hc : ∀ i : Nat, i ≤ a.length → c i = (decide (i < a.length) && !ne i)) (hf : ∀ i : Nat, i < a.length → f i = iAdd .i64 i 1) (hp : ∀ i : Nat, i ≤ a.length → p i) :
    LoopOk c f p 0 ∧ (loopV c f 0 < (a.length : Int) ↔ a ≠ b) := by
  obtain ⟨h1, h2⟩ := scan_loop a.length ne hn hc hf hp
  refine ⟨h1, ?_⟩
  rw [h2]
  have hle := firstAt_le ne a.length 0
  constructor
  · intro h hab
    subst hab
    have := firstAt_lt ne a.length 0 (by omega)
    rw [(hne _ (by omega)).2 rfl] at this; cases this
  · intro h
    rcases Nat.lt_or_ge (firstAt ne a.length 0) a.length with h3 | h3
    · omega
    · exfalso; apply h
      have h4 : firstAt ne a.length 0 = a.length := by omega
      rw [firstAt_all] at h4
      refine List.ext_getElem hl fun i hi hi' => ?_
      have := (hne i hi).1 (h4 i hi)
      rw [List.getD_eq_getElem?_getD, List.getD_eq_getElem?_getD, List.getElem?_eq_getElem hi, List.getElem?_eq_getElem hi'] at this
      simpa using this
theorem eq_ok {α : Type} {c : Int → Bool} {f : Int → Int} {p : Int → Prop} (a b : List α) (d : α) (ne : Nat → Bool) (hl : a.length = b.length) (hne : ∀ i, i < a.length → (ne i = false ↔ a.getD i d = b.getD i d)) (hn : (a.length : Int) ≤ 9223372036854775806) (hc : ∀ i : Nat, i ≤ a.length → c i = (decide (i < a.length) && !ne i)) (hf : ∀ i : Nat, i < a.length → f i = iAdd .i64 i 1) (hp : ∀ i : Nat, i ≤ a.length → p i) : LoopOk c f p 0 := (eq_loop a b d ne hl hne hn hc hf hp).1
theorem eq_v {α : Type} {c : Int → Bool} {f : Int → Int} (a b : List α) (d : α) (ne : Nat → Bool) (hl : a.length = b.length) (hne : ∀ i, i < a.length → (ne i = false ↔ a.getD i d = b.getD i d)) (hn : (a.length : Int) ≤ 9223372036854775806) (hc : ∀ i : Nat, i ≤ a.length → c i = (decide (i < a.length) && !ne i)) (hf : ∀ i : Nat, i < a.length → f i = iAdd .i64 i 1) : loopV c f 0 < (a.length : Int) ↔ a ≠ b := (eq_loop (p := fun _ => True) a b d ne hl hne hn hc hf (fun _ _ => trivial)).2
theorem copyg_loop {α : Type} {c : List α × Int → Bool} {f : List α × Int → List α × Int} {p : List α × Int → Prop} (x : List α) (z d : α) (hn : x.length ≤ 1048576)
    (hc : ∀ st, c st = iLt st.2 (lLen x)) (hf : ∀ (l : List α) (i : Nat), i < x.length → f (l, (i : Int)) = (l.set i (x.getD i d), iAdd .i64 i 1))
    (hp : ∀ (l : List α) (i : Nat), l.length = x.length → i ≤ x.length → p (l, i)) :
    LoopOk c f p (lRep (lLen x) z, 0) ∧ (loopV c f (lRep (lLen x) z, 0)).1 = x := by
  have h := loop_inv (c := c) (f := f) (p := p) (fun st => st.1.length = x.length ∧ ∃ i : Nat, st.2 = i ∧ i ≤ x.length ∧ st.1.take i = x.take i) (fun st => x.length - st.2.toNat) (fun st hI => ?_) (x0 := (lRep (lLen x) z, 0)) ⟨by simp [lRep_eq, lLen_eq], 0, rfl, Nat.zero_le _, by simp⟩
  · obtain ⟨h1, ⟨h2, i, h3, h4, h5⟩, h6⟩ := h
    refine ⟨h1, ?_⟩
    rw [hc, h3, iLt_eq, lLen_eq, decide_eq_false_iff_not] at h6
    have : i = x.length := by omega
    subst this
    rw [List.take_length, ← h2, List.take_length] at h5
    exact h5
  · obtain ⟨l, j⟩ := st
    obtain ⟨h2, i, h3, h4, h5⟩ := hI
    simp only at h2 h3 h5
    subst h3
    refine ⟨hp l i h2 h4, fun hcc => ?_⟩
    rw [hc, iLt_eq, lLen_eq, decide_eq_true_eq] at hcc
    simp only at hcc
    have hi : i < x.length := by omega
    rw [hf l i hi]
    simp only [Int.toNat_natCast]
    rw [iAdd_i64 (by unfold In64; omega)]
    refine ⟨⟨by simp [h2], i + 1, by omega, by omega, set_take x i hi d l h2 h5⟩, by omega⟩
theorem copyg_ok {α : Type} {c : List α × Int → Bool} {f : List α × Int → List α × Int} {p : List α × Int → Prop} (x : List α) (z d : α) (hn : x.length ≤ 1048576)
    (hc : ∀ st, c st = iLt st.2 (lLen x)) (hf : ∀ (l : List α) (i : Nat), i < x.length → f (l, (i : Int)) = (l.set i (x.getD i d), iAdd .i64 i 1))
    (hp : ∀ (l : List α) (i : Nat), l.length = x.length → i ≤ x.length → p (l, i)) : LoopOk c f p (lRep (lLen x) z, 0) := (copyg_loop x z d hn hc hf hp).1
theorem copyg_v {α : Type} {c : List α × Int → Bool} {f : List α × Int → List α × Int} (x : List α) (z d : α) (hn : x.length ≤ 1048576)
    (hc : ∀ st, c st = iLt st.2 (lLen x)) (hf : ∀ (l : List α) (i : Nat), i < x.length → f (l, (i : Int)) = (l.set i (x.getD i d), iAdd .i64 i 1)) : (loopV c f (lRep (lLen x) z, 0)).1 = x := (copyg_loop (p := fun _ => True) x z d hn hc hf (fun _ _ _ _ => trivial)).2
theorem getD_mem {α : Type} (x : List α) (i : Nat) (d : α) (h : i < x.length) : x.getD i d ∈ x := by
  rw [List.getD_eq_getElem?_getD, List.getElem?_eq_getElem h]; exact List.getElem_mem h
theorem roomy_of {n : Int} {w : Nat} (h0 : 0 ≤ n) (h : n ≤ 1048576) (hw : w ≤ 1000) : roomy (n.toNat * w) := by
  show n.toNat * w ≤ 2 ^ 40
  have h1 : n.toNat ≤ 1048576 := by omega
  have := Nat.mul_le_mul h1 hw
  omega
theorem cnt_ok {X : Type} {c : X → Bool} {f : X → X} {p : X → Prop} (ix : X → Int) (n : Int) (hn : n ≤ 9223372036854775806) (hc : ∀ x, 0 ≤ ix x → ix x ≤ n → c x = true → ix x < n) (hf : ∀ x, ix (f x) = iAdd .i64 (ix x) 1) (hp : ∀ x, 0 ≤ ix x → ix x ≤ n → p x) {x0 : X} (h0 : 0 ≤ ix x0) (h1 : ix x0 ≤ n) : LoopOk c f p x0 := by
  refine (loop_inv (fun x => 0 ≤ ix x ∧ ix x ≤ n) (fun x => (n - ix x).toNat) (fun x hI => ⟨hp x hI.1 hI.2, fun hcc => ?_⟩) ⟨h0, h1⟩).1
  have := hc x hI.1 hI.2 hcc
  obtain ⟨k1, k2⟩ := hI
  have e := hf x
  rw [iAdd_i64 (by unfold In64; omega)] at e
  refine ⟨by omega, by omega⟩
section
set_option maxRecDepth 8000
noncomputable def dc_spec_l1In : DCode :=
  (.seq [2, 1, 0] (.region [oa 0 6 (.mv (.c (.bool false)))])
  (.seq [6] (.region [om 0 7 0,
 om 1 8 1,
 oa 2 9 (.bin .geq (.t 7) (.t 8)),
 om 3 10 9,
 og 4 11 (.mv (.t 0)) 10 true,
 og 5 12 (.mv (.t 2)) 10 true,
 og 6 13 (.bin .leq (.t 11) (.t 12)) 10 true,
 oa 7 14 (.pick (.t 10) (.t 13) (.c (.bool false))),
 om 8 6 14])
  .ret))
noncomputable def df_spec_l1In : DFun := ⟨3, 15, 0, true, [.tmp 6], dc_spec_l1In⟩
noncomputable def pf_spec_l1In : PFun := df_spec_l1In.er
noncomputable def f_spec_l1In : AFun := pf_spec_l1In.er
@[irreducible] noncomputable def s_spec_l1In : CallSem := funSem f_spec_l1In
@[irreducible] noncomputable def p_spec_l1In : PSem := pfunSem pf_spec_l1In
theorem sp_spec_l1In : SoundP s_spec_l1In p_spec_l1In := by unfold s_spec_l1In p_spec_l1In; exact pfun_sound (f := pf_spec_l1In) trivial
def h_spec_l1In : List HT := [.one .frz (.int .i64), .one .frz (.int .i64), .one .frz (.int .i64)]
def q_spec_l1In : QT := .one (.one .own (.bool))
@[irreducible] noncomputable def v_spec_l1In (x : Int × Int × Int) : Bool := (shut fun x => fnV df_spec_l1In h_spec_l1In q_spec_l1In x).1 x
@[irreducible] noncomputable def ok_spec_l1In (x : Int × Int × Int) : Prop := (shut fun x => fnOk df_spec_l1In h_spec_l1In q_spec_l1In x).1 x
theorem vu_spec_l1In (x : Int × Int × Int) : v_spec_l1In x = fnV df_spec_l1In h_spec_l1In q_spec_l1In x := by unfold v_spec_l1In; exact congrFun (shut _).2 x
theorem ou_spec_l1In (x : Int × Int × Int) : ok_spec_l1In x = fnOk df_spec_l1In h_spec_l1In q_spec_l1In x := by unfold ok_spec_l1In; exact congrFun (shut _).2 x
noncomputable def D_spec_l1In : DSem := DSemOf h_spec_l1In q_spec_l1In ok_spec_l1In v_spec_l1In
theorem ck_spec_l1In (x : Int × Int × Int) : fnChk df_spec_l1In h_spec_l1In q_spec_l1In x = true := by kernel_rfl
theorem ob_spec_l1In : AllD df_spec_l1In.body.obs := trivial
theorem st_spec_l1In : fnSt df_spec_l1In h_spec_l1In q_spec_l1In = true := by kernel_rfl
theorem sd_spec_l1In : SoundD p_spec_l1In D_spec_l1In := by unfold p_spec_l1In; exact soundD_of (f := df_spec_l1In) (hs := h_spec_l1In) (q := q_spec_l1In) ob_spec_l1In st_spec_l1In ck_spec_l1In (fun x h => Eq.mp (ou_spec_l1In x) h) (fun x => (vu_spec_l1In x).symm)
end
section
set_option maxRecDepth 100000
theorem ve_spec_l1In (x : Int × Int × Int) : v_spec_l1In x = (bAnd (iGe x.1 x.2.1) (iLe x.1 x.2.2)) := (vu_spec_l1In x).trans (by kernel_rfl)
theorem oe_spec_l1In (x : Int × Int × Int) : ok_spec_l1In x = True := (ou_spec_l1In x).trans (by kernel_rfl)
end
theorem l1In_eq (a b c : Int) : v_spec_l1In (a, b, c) = (decide (b ≤ a) && decide (a ≤ c)) := by rw [ve_spec_l1In]; simp only [bAnd_eq, iGe_eq, iLe_eq]
theorem ok_l1In (x) : ok_spec_l1In x := by rw [oe_spec_l1In]; trivial
section
set_option maxRecDepth 8000
noncomputable def dc_laws_szEventS : DCode :=
  (.seq [1, 0] (.region [oi 0 4 0])
  (.seq [1] (.region [om 0 5 1,
 on 1 6 0,
 oa 2 7 (.len (.t 6)),
 oa 3 8 (.bin .sub (.t 5) (.t 7)),
 om 4 1 8])
  (.seq [1] (.seq [10, 1] (.region [om 0 9 1,
 oa 1 10 (.bin .lss (.t 9) (.c (.int .i64 0)))])
  (.cond (.t 10) (.seq [4] (.region [oi 0 4 (-1)])
  .ret) .skip))
  (.seq [4] (.region [om 0 11 1,
 om 1 4 11])
  .ret))))
noncomputable def df_laws_szEventS : DFun := ⟨2, 12, 0, true, [.tmp 4], dc_laws_szEventS⟩
noncomputable def pf_laws_szEventS : PFun := df_laws_szEventS.er
noncomputable def f_laws_szEventS : AFun := pf_laws_szEventS.er
@[irreducible] noncomputable def s_laws_szEventS : CallSem := funSem f_laws_szEventS
@[irreducible] noncomputable def p_laws_szEventS : PSem := pfunSem pf_laws_szEventS
theorem sp_laws_szEventS : SoundP s_laws_szEventS p_laws_szEventS := by unfold s_laws_szEventS p_laws_szEventS; exact pfun_sound (f := pf_laws_szEventS) trivial
def h_laws_szEventS : List HT := [.one .frz (.sl (.cons (.int .i64) (.cons (.int .i64) (.one (.bool))))), .one .frz (.int .i64)]
def q_laws_szEventS : QT := .one (.one .own (.int .i64))
@[irreducible] noncomputable def v_laws_szEventS (x : (List (Int × Int × Bool)) × Int) : Int := (shut fun x => fnV df_laws_szEventS h_laws_szEventS q_laws_szEventS x).1 x
@[irreducible] noncomputable def ok_laws_szEventS (x : (List (Int × Int × Bool)) × Int) : Prop := (shut fun x => fnOk df_laws_szEventS h_laws_szEventS q_laws_szEventS x).1 x
theorem vu_laws_szEventS (x : (List (Int × Int × Bool)) × Int) : v_laws_szEventS x = fnV df_laws_szEventS h_laws_szEventS q_laws_szEventS x := by unfold v_laws_szEventS; exact congrFun (shut _).2 x
theorem ou_laws_szEventS (x : (List (Int × Int × Bool)) × Int) : ok_laws_szEventS x = fnOk df_laws_szEventS h_laws_szEventS q_laws_szEventS x := by unfold ok_laws_szEventS; exact congrFun (shut _).2 x
noncomputable def D_laws_szEventS : DSem := DSemOf h_laws_szEventS q_laws_szEventS ok_laws_szEventS v_laws_szEventS
theorem ck_laws_szEventS (x : (List (Int × Int × Bool)) × Int) : fnChk df_laws_szEventS h_laws_szEventS q_laws_szEventS x = true := by kernel_rfl
theorem ob_laws_szEventS : AllD df_laws_szEventS.body.obs := trivial
theorem st_laws_szEventS : fnSt df_laws_szEventS h_laws_szEventS q_laws_szEventS = true := by kernel_rfl
theorem sd_laws_szEventS : SoundD p_laws_szEventS D_laws_szEventS := by unfold p_laws_szEventS; exact soundD_of (f := df_laws_szEventS) (hs := h_laws_szEventS) (q := q_laws_szEventS) ob_laws_szEventS st_laws_szEventS ck_laws_szEventS (fun x h => Eq.mp (ou_laws_szEventS x) h) (fun x => (vu_laws_szEventS x).symm)
noncomputable def dc_laws_toEvent : DCode :=
  (.seq [2, 1] (.region [oa 0 1 (.boxB 0 3 (.t 0)),
 oa 1 2 (.allocB 1 [(.int .i64 0), (.int .i64 0), (.bool false)])])
  (.seq [3, 2, 1] (.region [oa 0 3 (.allocB 2 [(.int .i64 0), (.int .i64 0), (.bool false)])])
  (.seq [3, 2, 1] (.region [oa 0 4 (.fieldA 0 (.t 1)),
 ob 1 5 (.loadB 0 none (.t 4)),
 oa 2 6 (.fieldA 0 (.t 3)),
 os 3 (.storeB 2 1 (.t 6) (.t 5))])
  (.seq [3, 2, 1] (.region [oa 0 7 (.fieldA 1 (.t 1)),
 ob 1 8 (.loadB 0 none (.t 7)),
 oa 2 9 (.fieldA 1 (.t 3)),
 os 3 (.storeB 2 1 (.t 9) (.t 8))])
  (.seq [3, 2] (.region [oa 0 10 (.fieldA 2 (.t 1)),
 ob 1 11 (.loadB 0 none (.t 10)),
 oa 2 12 (.fieldA 2 (.t 3)),
 os 3 (.storeB 2 1 (.t 12) (.t 11))])
  (.seq [2] (.region [ob 0 13 (.loadB 2 (some 3) (.t 3)),
 os 1 (.storeB 1 3 (.t 2) (.t 13))])
  .ret))))))
noncomputable def df_laws_toEvent : DFun := ⟨1, 14, 3, true, [.cell 2 (some 3)], dc_laws_toEvent⟩
noncomputable def pf_laws_toEvent : PFun := df_laws_toEvent.er
noncomputable def f_laws_toEvent : AFun := pf_laws_toEvent.er
@[irreducible] noncomputable def s_laws_toEvent : CallSem := funSem f_laws_toEvent
@[irreducible] noncomputable def p_laws_toEvent : PSem := pfunSem pf_laws_toEvent
theorem sp_laws_toEvent : SoundP s_laws_toEvent p_laws_toEvent := by unfold s_laws_toEvent p_laws_toEvent; exact pfun_sound (f := pf_laws_toEvent) trivial
def h_laws_toEvent : List HT := [.agg [(.frz, .int .i64), (.frz, .int .i64), (.frz, .bool)]]
def q_laws_toEvent : QT := .one (.agg [(.own, .int .i64), (.own, .int .i64), (.own, .bool)])
@[irreducible] noncomputable def v_laws_toEvent (x : Int × Int × Bool) : Int × Int × Bool := (shut fun x => fnV df_laws_toEvent h_laws_toEvent q_laws_toEvent x).1 x
@[irreducible] noncomputable def ok_laws_toEvent (x : Int × Int × Bool) : Prop := (shut fun x => fnOk df_laws_toEvent h_laws_toEvent q_laws_toEvent x).1 x
theorem vu_laws_toEvent (x : Int × Int × Bool) : v_laws_toEvent x = fnV df_laws_toEvent h_laws_toEvent q_laws_toEvent x := by unfold v_laws_toEvent; exact congrFun (shut _).2 x
theorem ou_laws_toEvent (x : Int × Int × Bool) : ok_laws_toEvent x = fnOk df_laws_toEvent h_laws_toEvent q_laws_toEvent x := by unfold ok_laws_toEvent; exact congrFun (shut _).2 x
noncomputable def D_laws_toEvent : DSem := DSemOf h_laws_toEvent q_laws_toEvent ok_laws_toEvent v_laws_toEvent
theorem ck_laws_toEvent (x : Int × Int × Bool) : fnChk df_laws_toEvent h_laws_toEvent q_laws_toEvent x = true := by kernel_rfl
theorem ob_laws_toEvent : AllD df_laws_toEvent.body.obs := trivial
theorem st_laws_toEvent : fnSt df_laws_toEvent h_laws_toEvent q_laws_toEvent = true := by kernel_rfl
theorem sd_laws_toEvent : SoundD p_laws_toEvent D_laws_toEvent := by unfold p_laws_toEvent; exact soundD_of (f := df_laws_toEvent) (hs := h_laws_toEvent) (q := q_laws_toEvent) ob_laws_toEvent st_laws_toEvent ck_laws_toEvent (fun x h => Eq.mp (ou_laws_toEvent x) h) (fun x => (vu_laws_toEvent x).symm)
noncomputable def dc_laws_toEventS : DCode :=
  (.seq [0] (.region [oa 0 2 (.mv (.c .nils))])
  (.seq [3, 0] (.region [on 0 5 0,
 oa 1 6 (.len (.t 5)),
 ⟨2, some 7, .a false (.mkSlice 3 [(.int .i64 0), (.int .i64 0), (.bool false)] (.t 6)) (some (.cons (.int .i64) (.cons (.int .i64) (.one (.bool))))), none, []⟩,
 om 3 3 7])
  (.seq [3] (.seq [4, 3, 0] (.region [oi 0 4 0])
  (.block 0 (.loop [0, 3, 4] 1 (.seq [4, 3, 0] (.seq [11, 4, 3, 0] (.region [om 0 8 4,
 on 1 9 0,
 oa 2 10 (.len (.t 9)),
 oa 3 11 (.bin .lss (.t 8) (.t 10))])
  (.cond (.t 11) .skip (.exit 0)))
  (.seq [4, 3, 0] (.block 1 (.region [on 0 14 3,
 om 1 15 4,
 on 2 16 0,
 om 3 17 4,
 oa 4 18 (.indexA 3 (.t 16) (.t 17)),
 oa 5 19 (.loadH (some 3) (.t 18)),
 oc 6 20 s_laws_toEvent p_laws_toEvent D_laws_toEvent [(.t 19)],
 oa 7 21 (.indexA 3 (.t 14) (.t 15)),
 os 8 (.storeH 3 (.t 21) (.t 20))]))
  (.region [om 0 12 4,
 oa 1 13 (.bin .add (.t 12) (.c (.int .i64 1))),
 om 2 4 13]))))))
  (.seq [2] (.region [om 0 22 3,
 om 1 2 22])
  .ret))))
noncomputable def df_laws_toEventS : DFun := ⟨1, 23, 0, false, [.tmp 2], dc_laws_toEventS⟩
noncomputable def pf_laws_toEventS : PFun := df_laws_toEventS.er
noncomputable def f_laws_toEventS : AFun := pf_laws_toEventS.er
@[irreducible] noncomputable def s_laws_toEventS : CallSem := funSem f_laws_toEventS
@[irreducible] noncomputable def p_laws_toEventS : PSem := pfunSem pf_laws_toEventS
theorem sp_laws_toEventS : SoundP s_laws_toEventS p_laws_toEventS := by unfold s_laws_toEventS p_laws_toEventS; exact pfun_sound (f := pf_laws_toEventS) ⟨sp_laws_toEvent, trivial⟩
def h_laws_toEventS : List HT := [.one .frz (.sl (.cons (.int .i64) (.cons (.int .i64) (.one (.bool)))))]
def q_laws_toEventS : QT := .one (.one .own (.sl (.cons (.int .i64) (.cons (.int .i64) (.one (.bool))))))
@[irreducible] noncomputable def v_laws_toEventS (x : List (Int × Int × Bool)) : List (Int × Int × Bool) := (shut fun x => fnV df_laws_toEventS h_laws_toEventS q_laws_toEventS x).1 x
@[irreducible] noncomputable def ok_laws_toEventS (x : List (Int × Int × Bool)) : Prop := (shut fun x => fnOk df_laws_toEventS h_laws_toEventS q_laws_toEventS x).1 x
theorem vu_laws_toEventS (x : List (Int × Int × Bool)) : v_laws_toEventS x = fnV df_laws_toEventS h_laws_toEventS q_laws_toEventS x := by unfold v_laws_toEventS; exact congrFun (shut _).2 x
theorem ou_laws_toEventS (x : List (Int × Int × Bool)) : ok_laws_toEventS x = fnOk df_laws_toEventS h_laws_toEventS q_laws_toEventS x := by unfold ok_laws_toEventS; exact congrFun (shut _).2 x
noncomputable def D_laws_toEventS : DSem := DSemOf h_laws_toEventS q_laws_toEventS ok_laws_toEventS v_laws_toEventS
theorem ck_laws_toEventS (x : List (Int × Int × Bool)) : fnChk df_laws_toEventS h_laws_toEventS q_laws_toEventS x = true := by kernel_rfl
theorem ob_laws_toEventS : AllD df_laws_toEventS.body.obs := ⟨sd_laws_toEvent, trivial⟩
theorem st_laws_toEventS : fnSt df_laws_toEventS h_laws_toEventS q_laws_toEventS = true := by kernel_rfl
theorem sd_laws_toEventS : SoundD p_laws_toEventS D_laws_toEventS := by unfold p_laws_toEventS; exact soundD_of (f := df_laws_toEventS) (hs := h_laws_toEventS) (q := q_laws_toEventS) ob_laws_toEventS st_laws_toEventS ck_laws_toEventS (fun x h => Eq.mp (ou_laws_toEventS x) h) (fun x => (vu_laws_toEventS x).symm)
noncomputable def dc_spec_IsEvent : DCode :=
  (.seq [1] (.region [oa 0 1 (.boxB 0 3 (.t 0)),
 oa 1 2 (.mv (.c (.bool false)))])
  (.seq [2] (.region [oa 0 3 (.fieldA 0 (.t 1)),
 oa 1 4 (.loadB 0 none (.t 3)),
 oc 2 5 s_spec_l1In p_spec_l1In D_spec_l1In [(.t 4), (.c (.int .i64 0)), (.c (.int .i64 1000000))],
 om 3 6 5,
 og 4 7 (.fieldA 1 (.t 1)) 6 true,
 og 5 8 (.loadB 0 none (.t 7)) 6 true,
 ⟨6, some 9, .call false s_spec_l1In p_spec_l1In D_spec_l1In [(.t 8), (.c (.int .i64 0)), (.c (.int .i64 31))], (some (6, true)), []⟩,
 oa 7 10 (.pick (.t 6) (.t 9) (.c (.bool false))),
 om 8 2 10])
  .ret))
noncomputable def df_spec_IsEvent : DFun := ⟨1, 11, 1, true, [.tmp 2], dc_spec_IsEvent⟩
noncomputable def pf_spec_IsEvent : PFun := df_spec_IsEvent.er
noncomputable def f_spec_IsEvent : AFun := pf_spec_IsEvent.er
@[irreducible] noncomputable def s_spec_IsEvent : CallSem := funSem f_spec_IsEvent
@[irreducible] noncomputable def p_spec_IsEvent : PSem := pfunSem pf_spec_IsEvent
theorem sp_spec_IsEvent : SoundP s_spec_IsEvent p_spec_IsEvent := by unfold s_spec_IsEvent p_spec_IsEvent; exact pfun_sound (f := pf_spec_IsEvent) ⟨sp_spec_l1In, sp_spec_l1In, trivial⟩
def h_spec_IsEvent : List HT := [.agg [(.frz, .int .i64), (.frz, .int .i64), (.frz, .bool)]]
def q_spec_IsEvent : QT := .one (.one .own (.bool))
@[irreducible] noncomputable def v_spec_IsEvent (x : Int × Int × Bool) : Bool := (shut fun x => fnV df_spec_IsEvent h_spec_IsEvent q_spec_IsEvent x).1 x
@[irreducible] noncomputable def ok_spec_IsEvent (x : Int × Int × Bool) : Prop := (shut fun x => fnOk df_spec_IsEvent h_spec_IsEvent q_spec_IsEvent x).1 x
theorem vu_spec_IsEvent (x : Int × Int × Bool) : v_spec_IsEvent x = fnV df_spec_IsEvent h_spec_IsEvent q_spec_IsEvent x := by unfold v_spec_IsEvent; exact congrFun (shut _).2 x
theorem ou_spec_IsEvent (x : Int × Int × Bool) : ok_spec_IsEvent x = fnOk df_spec_IsEvent h_spec_IsEvent q_spec_IsEvent x := by unfold ok_spec_IsEvent; exact congrFun (shut _).2 x
noncomputable def D_spec_IsEvent : DSem := DSemOf h_spec_IsEvent q_spec_IsEvent ok_spec_IsEvent v_spec_IsEvent
theorem ck_spec_IsEvent (x : Int × Int × Bool) : fnChk df_spec_IsEvent h_spec_IsEvent q_spec_IsEvent x = true := by kernel_rfl
theorem ob_spec_IsEvent : AllD df_spec_IsEvent.body.obs := ⟨sd_spec_l1In, sd_spec_l1In, trivial⟩
theorem st_spec_IsEvent : fnSt df_spec_IsEvent h_spec_IsEvent q_spec_IsEvent = true := by kernel_rfl
theorem sd_spec_IsEvent : SoundD p_spec_IsEvent D_spec_IsEvent := by unfold p_spec_IsEvent; exact soundD_of (f := df_spec_IsEvent) (hs := h_spec_IsEvent) (q := q_spec_IsEvent) ob_spec_IsEvent st_spec_IsEvent ck_spec_IsEvent (fun x h => Eq.mp (ou_spec_IsEvent x) h) (fun x => (vu_spec_IsEvent x).symm)
noncomputable def dc_impl_IsEvent : DCode :=
  (.seq [1] (.region [oa 0 1 (.boxB 0 3 (.t 0)),
 oa 1 2 (.mv (.c (.bool false)))])
  (.seq [2] (.region [oa 0 3 (.fieldA 0 (.t 1)),
 oa 1 4 (.loadB 0 none (.t 3)),
 oa 2 5 (.bin .geq (.t 4) (.c (.int .i64 0))),
 om 3 6 5,
 og 4 7 (.fieldA 0 (.t 1)) 6 true,
 og 5 8 (.loadB 0 none (.t 7)) 6 true,
 og 6 9 (.bin .leq (.t 8) (.c (.int .i64 1000000))) 6 true,
 oa 7 10 (.pick (.t 6) (.t 9) (.c (.bool false))),
 om 8 11 10,
 og 9 12 (.fieldA 1 (.t 1)) 11 true,
 og 10 13 (.loadB 0 none (.t 12)) 11 true,
 og 11 14 (.bin .geq (.t 13) (.c (.int .i64 0))) 11 true,
 oa 12 15 (.pick (.t 11) (.t 14) (.c (.bool false))),
 om 13 16 15,
 og 14 17 (.fieldA 1 (.t 1)) 16 true,
 og 15 18 (.loadB 0 none (.t 17)) 16 true,
 og 16 19 (.bin .leq (.t 18) (.c (.int .i64 31))) 16 true,
 oa 17 20 (.pick (.t 16) (.t 19) (.c (.bool false))),
 om 18 2 20])
  .ret))
noncomputable def df_impl_IsEvent : DFun := ⟨1, 21, 1, true, [.tmp 2], dc_impl_IsEvent⟩
noncomputable def pf_impl_IsEvent : PFun := df_impl_IsEvent.er
noncomputable def f_impl_IsEvent : AFun := pf_impl_IsEvent.er
@[irreducible] noncomputable def s_impl_IsEvent : CallSem := funSem f_impl_IsEvent
@[irreducible] noncomputable def p_impl_IsEvent : PSem := pfunSem pf_impl_IsEvent
theorem sp_impl_IsEvent : SoundP s_impl_IsEvent p_impl_IsEvent := by unfold s_impl_IsEvent p_impl_IsEvent; exact pfun_sound (f := pf_impl_IsEvent) trivial
def h_impl_IsEvent : List HT := [.agg [(.frz, .int .i64), (.frz, .int .i64), (.frz, .bool)]]
def q_impl_IsEvent : QT := .one (.one .own (.bool))
@[irreducible] noncomputable def v_impl_IsEvent (x : Int × Int × Bool) : Bool := (shut fun x => fnV df_impl_IsEvent h_impl_IsEvent q_impl_IsEvent x).1 x
@[irreducible] noncomputable def ok_impl_IsEvent (x : Int × Int × Bool) : Prop := (shut fun x => fnOk df_impl_IsEvent h_impl_IsEvent q_impl_IsEvent x).1 x
theorem vu_impl_IsEvent (x : Int × Int × Bool) : v_impl_IsEvent x = fnV df_impl_IsEvent h_impl_IsEvent q_impl_IsEvent x := by unfold v_impl_IsEvent; exact congrFun (shut _).2 x
theorem ou_impl_IsEvent (x : Int × Int × Bool) : ok_impl_IsEvent x = fnOk df_impl_IsEvent h_impl_IsEvent q_impl_IsEvent x := by unfold ok_impl_IsEvent; exact congrFun (shut _).2 x
noncomputable def D_impl_IsEvent : DSem := DSemOf h_impl_IsEvent q_impl_IsEvent ok_impl_IsEvent v_impl_IsEvent
theorem ck_impl_IsEvent (x : Int × Int × Bool) : fnChk df_impl_IsEvent h_impl_IsEvent q_impl_IsEvent x = true := by kernel_rfl
theorem ob_impl_IsEvent : AllD df_impl_IsEvent.body.obs := trivial
theorem st_impl_IsEvent : fnSt df_impl_IsEvent h_impl_IsEvent q_impl_IsEvent = true := by kernel_rfl
theorem sd_impl_IsEvent : SoundD p_impl_IsEvent D_impl_IsEvent := by unfold p_impl_IsEvent; exact soundD_of (f := df_impl_IsEvent) (hs := h_impl_IsEvent) (q := q_impl_IsEvent) ob_impl_IsEvent st_impl_IsEvent ck_impl_IsEvent (fun x h => Eq.mp (ou_impl_IsEvent x) h) (fun x => (vu_impl_IsEvent x).symm)
noncomputable def dc_laws_eqEvent : DCode :=
  (.seq [3, 2] (.region [oa 0 2 (.boxB 0 3 (.t 0)),
 oa 1 3 (.boxB 1 3 (.t 1)),
 oa 2 4 (.mv (.c (.bool false)))])
  (.seq [3, 2] (.seq [9, 3, 2] (.region [oa 0 5 (.fieldA 0 (.t 2)),
 oa 1 6 (.loadB 0 none (.t 5)),
 oa 2 7 (.fieldA 0 (.t 3)),
 oa 3 8 (.loadB 1 none (.t 7)),
 oa 4 9 (.bin .neq (.t 6) (.t 8))])
  (.cond (.t 9) (.seq [4] (.region [oa 0 4 (.mv (.c (.bool false)))])
  .ret) .skip))
  (.seq [3, 2] (.seq [14, 3, 2] (.region [oa 0 10 (.fieldA 1 (.t 2)),
 oa 1 11 (.loadB 0 none (.t 10)),
 oa 2 12 (.fieldA 1 (.t 3)),
 oa 3 13 (.loadB 1 none (.t 12)),
 oa 4 14 (.bin .neq (.t 11) (.t 13))])
  (.cond (.t 14) (.seq [4] (.region [oa 0 4 (.mv (.c (.bool false)))])
  .ret) .skip))
  (.seq [] (.seq [19] (.region [oa 0 15 (.fieldA 2 (.t 2)),
 oa 1 16 (.loadB 0 none (.t 15)),
 oa 2 17 (.fieldA 2 (.t 3)),
 oa 3 18 (.loadB 1 none (.t 17)),
 oa 4 19 (.eqB true (.t 16) (.t 18))])
  (.cond (.t 19) (.seq [4] (.region [oa 0 4 (.mv (.c (.bool false)))])
  .ret) .skip))
  (.seq [4] (.region [oa 0 4 (.mv (.c (.bool true)))])
  .ret)))))
noncomputable def df_laws_eqEvent : DFun := ⟨2, 20, 2, true, [.tmp 4], dc_laws_eqEvent⟩
noncomputable def pf_laws_eqEvent : PFun := df_laws_eqEvent.er
noncomputable def f_laws_eqEvent : AFun := pf_laws_eqEvent.er
@[irreducible] noncomputable def s_laws_eqEvent : CallSem := funSem f_laws_eqEvent
@[irreducible] noncomputable def p_laws_eqEvent : PSem := pfunSem pf_laws_eqEvent
theorem sp_laws_eqEvent : SoundP s_laws_eqEvent p_laws_eqEvent := by unfold s_laws_eqEvent p_laws_eqEvent; exact pfun_sound (f := pf_laws_eqEvent) trivial
def h_laws_eqEvent : List HT := [.agg [(.frz, .int .i64), (.frz, .int .i64), (.frz, .bool)], .agg [(.frz, .int .i64), (.frz, .int .i64), (.frz, .bool)]]
def q_laws_eqEvent : QT := .one (.one .own (.bool))
@[irreducible] noncomputable def v_laws_eqEvent (x : (Int × Int × Bool) × (Int × Int × Bool)) : Bool := (shut fun x => fnV df_laws_eqEvent h_laws_eqEvent q_laws_eqEvent x).1 x
@[irreducible] noncomputable def ok_laws_eqEvent (x : (Int × Int × Bool) × (Int × Int × Bool)) : Prop := (shut fun x => fnOk df_laws_eqEvent h_laws_eqEvent q_laws_eqEvent x).1 x
theorem vu_laws_eqEvent (x : (Int × Int × Bool) × (Int × Int × Bool)) : v_laws_eqEvent x = fnV df_laws_eqEvent h_laws_eqEvent q_laws_eqEvent x := by unfold v_laws_eqEvent; exact congrFun (shut _).2 x
theorem ou_laws_eqEvent (x : (Int × Int × Bool) × (Int × Int × Bool)) : ok_laws_eqEvent x = fnOk df_laws_eqEvent h_laws_eqEvent q_laws_eqEvent x := by unfold ok_laws_eqEvent; exact congrFun (shut _).2 x
noncomputable def D_laws_eqEvent : DSem := DSemOf h_laws_eqEvent q_laws_eqEvent ok_laws_eqEvent v_laws_eqEvent
theorem ck_laws_eqEvent (x : (Int × Int × Bool) × (Int × Int × Bool)) : fnChk df_laws_eqEvent h_laws_eqEvent q_laws_eqEvent x = true := by kernel_rfl
theorem ob_laws_eqEvent : AllD df_laws_eqEvent.body.obs := trivial
theorem st_laws_eqEvent : fnSt df_laws_eqEvent h_laws_eqEvent q_laws_eqEvent = true := by kernel_rfl
theorem sd_laws_eqEvent : SoundD p_laws_eqEvent D_laws_eqEvent := by unfold p_laws_eqEvent; exact soundD_of (f := df_laws_eqEvent) (hs := h_laws_eqEvent) (q := q_laws_eqEvent) ob_laws_eqEvent st_laws_eqEvent ck_laws_eqEvent (fun x h => Eq.mp (ou_laws_eqEvent x) h) (fun x => (vu_laws_eqEvent x).symm)
noncomputable def dc_laws_eqEventS : DCode :=
  (.seq [1, 0] (.region [oa 0 4 (.mv (.c (.bool false)))])
  (.seq [1, 0] (.seq [10, 1, 0] (.region [on 0 6 0,
 oa 1 7 (.len (.t 6)),
 on 2 8 1,
 oa 3 9 (.len (.t 8)),
 oa 4 10 (.bin .neq (.t 7) (.t 9))])
  (.cond (.t 10) (.seq [4] (.region [oa 0 4 (.mv (.c (.bool false)))])
  .ret) .skip))
  (.seq [] (.seq [5, 1, 0] (.region [oi 0 5 0])
  (.block 0 (.loop [0, 1, 5] 1 (.seq [5, 1, 0] (.seq [14, 5, 1, 0] (.region [om 0 11 5,
 on 1 12 0,
 oa 2 13 (.len (.t 12)),
 oa 3 14 (.bin .lss (.t 11) (.t 13))])
  (.cond (.t 14) .skip (.exit 0)))
  (.seq [5, 1, 0] (.block 1 (.seq [26, 5, 1, 0] (.region [on 0 17 0,
 om 1 18 5,
 xA 2 19 (.indexA 3 (.t 17) (.t 18)) (rg 2),
 xA 3 20 (.loadH (some 3) (.t 19)) (rg 3),
 on 4 21 1,
 om 5 22 5,
 xA 6 23 (.indexA 3 (.t 21) (.t 22)) [4, 5],
 xA 7 24 (.loadH (some 3) (.t 23)) [4, 5, 6],
 xC 8 25 s_laws_eqEvent p_laws_eqEvent D_laws_eqEvent [(.t 20), (.t 24)] (rg 8),
 xA 9 26 (.un .not (.t 25)) (rg 9)])
  (.cond (.t 26) (.seq [4] (.region [oa 0 4 (.mv (.c (.bool false)))])
  .ret) .skip)))
  (.region [om 0 15 5,
 oa 1 16 (.bin .add (.t 15) (.c (.int .i64 1))),
 om 2 5 16]))))))
  (.seq [4] (.region [oa 0 4 (.mv (.c (.bool true)))])
  .ret))))
noncomputable def df_laws_eqEventS : DFun := ⟨2, 27, 0, true, [.tmp 4], dc_laws_eqEventS⟩
noncomputable def pf_laws_eqEventS : PFun := df_laws_eqEventS.er
noncomputable def f_laws_eqEventS : AFun := pf_laws_eqEventS.er
@[irreducible] noncomputable def s_laws_eqEventS : CallSem := funSem f_laws_eqEventS
@[irreducible] noncomputable def p_laws_eqEventS : PSem := pfunSem pf_laws_eqEventS
theorem sp_laws_eqEventS : SoundP s_laws_eqEventS p_laws_eqEventS := by unfold s_laws_eqEventS p_laws_eqEventS; exact pfun_sound (f := pf_laws_eqEventS) ⟨sp_laws_eqEvent, trivial⟩
def h_laws_eqEventS : List HT := [.one .frz (.sl (.cons (.int .i64) (.cons (.int .i64) (.one (.bool))))), .one .frz (.sl (.cons (.int .i64) (.cons (.int .i64) (.one (.bool)))))]
def q_laws_eqEventS : QT := .one (.one .own (.bool))
@[irreducible] noncomputable def v_laws_eqEventS (x : (List (Int × Int × Bool)) × (List (Int × Int × Bool))) : Bool := (shut fun x => fnV df_laws_eqEventS h_laws_eqEventS q_laws_eqEventS x).1 x
@[irreducible] noncomputable def ok_laws_eqEventS (x : (List (Int × Int × Bool)) × (List (Int × Int × Bool))) : Prop := (shut fun x => fnOk df_laws_eqEventS h_laws_eqEventS q_laws_eqEventS x).1 x
theorem vu_laws_eqEventS (x : (List (Int × Int × Bool)) × (List (Int × Int × Bool))) : v_laws_eqEventS x = fnV df_laws_eqEventS h_laws_eqEventS q_laws_eqEventS x := by unfold v_laws_eqEventS; exact congrFun (shut _).2 x
theorem ou_laws_eqEventS (x : (List (Int × Int × Bool)) × (List (Int × Int × Bool))) : ok_laws_eqEventS x = fnOk df_laws_eqEventS h_laws_eqEventS q_laws_eqEventS x := by unfold ok_laws_eqEventS; exact congrFun (shut _).2 x
noncomputable def D_laws_eqEventS : DSem := DSemOf h_laws_eqEventS q_laws_eqEventS ok_laws_eqEventS v_laws_eqEventS
theorem ck_laws_eqEventS (x : (List (Int × Int × Bool)) × (List (Int × Int × Bool))) : fnChk df_laws_eqEventS h_laws_eqEventS q_laws_eqEventS x = true := by kernel_rfl
theorem ob_laws_eqEventS : AllD df_laws_eqEventS.body.obs := ⟨sd_laws_eqEvent, trivial⟩
theorem st_laws_eqEventS : fnSt df_laws_eqEventS h_laws_eqEventS q_laws_eqEventS = true := by kernel_rfl
theorem sd_laws_eqEventS : SoundD p_laws_eqEventS D_laws_eqEventS := by unfold p_laws_eqEventS; exact soundD_of (f := df_laws_eqEventS) (hs := h_laws_eqEventS) (q := q_laws_eqEventS) ob_laws_eqEventS st_laws_eqEventS ck_laws_eqEventS (fun x h => Eq.mp (ou_laws_eqEventS x) h) (fun x => (vu_laws_eqEventS x).symm)
end
section
set_option maxRecDepth 100000
theorem ve_laws_szEventS (x : (List (Int × Int × Bool)) × Int) : v_laws_szEventS x = (bSel (iLt (iSub Go.IntKind.i64 x.2 (lLen x.1)) 0) (-1) (iSub Go.IntKind.i64 x.2 (lLen x.1))) := (vu_laws_szEventS x).trans (by kernel_rfl)
theorem oe_laws_szEventS (x : (List (Int × Int × Bool)) × Int) : ok_laws_szEventS x = True := (ou_laws_szEventS x).trans (by kernel_rfl)
theorem ve_laws_toEvent (x : Int × Int × Bool) : v_laws_toEvent x = (x.1, x.2.1, x.2.2) := (vu_laws_toEvent x).trans (by kernel_rfl)
theorem oe_laws_toEvent (x : Int × Int × Bool) : ok_laws_toEvent x = True := (ou_laws_toEvent x).trans (by kernel_rfl)
theorem ve_laws_toEventS (x : List (Int × Int × Bool)) : v_laws_toEventS x = (loopV (fun (x0 : ((List (Int × (Int × Bool))) × Int)) => (iLt x0.2 (lLen x))) (fun (x0 : ((List (Int × (Int × Bool))) × Int)) => ((lSet x0.1 (iNat x0.2) ((v_laws_toEvent ((lGet x (iNat x0.2) (0, 0, false)).1, (lGet x (iNat x0.2) (0, 0, false)).2.1, (lGet x (iNat x0.2) (0, 0, false)).2.2)).1, (v_laws_toEvent ((lGet x (iNat x0.2) (0, 0, false)).1, (lGet x (iNat x0.2) (0, 0, false)).2.1, (lGet x (iNat x0.2) (0, 0, false)).2.2)).2.1, (v_laws_toEvent ((lGet x (iNat x0.2) (0, 0, false)).1, (lGet x (iNat x0.2) (0, 0, false)).2.1, (lGet x (iNat x0.2) (0, 0, false)).2.2)).2.2)), (iAdd Go.IntKind.i64 x0.2 1))) ((lRep (lLen x) (0, 0, false)), 0)).1 := (vu_laws_toEventS x).trans (by kernel_rfl)
theorem oe_laws_toEventS (x : List (Int × Int × Bool)) : ok_laws_toEventS x = ((((0 : Int) ≤ (lLen x)) ∧ (roomy ((Int.toNat (lLen x)) * 3))) ∧ (LoopOk (fun (x0 : ((List (Int × (Int × Bool))) × Int)) => (iLt x0.2 (lLen x))) (fun (x0 : ((List (Int × (Int × Bool))) × Int)) => ((lSet x0.1 (iNat x0.2) ((v_laws_toEvent ((lGet x (iNat x0.2) (0, 0, false)).1, (lGet x (iNat x0.2) (0, 0, false)).2.1, (lGet x (iNat x0.2) (0, 0, false)).2.2)).1, (v_laws_toEvent ((lGet x (iNat x0.2) (0, 0, false)).1, (lGet x (iNat x0.2) (0, 0, false)).2.1, (lGet x (iNat x0.2) (0, 0, false)).2.2)).2.1, (v_laws_toEvent ((lGet x (iNat x0.2) (0, 0, false)).1, (lGet x (iNat x0.2) (0, 0, false)).2.1, (lGet x (iNat x0.2) (0, 0, false)).2.2)).2.2)), (iAdd Go.IntKind.i64 x0.2 1))) (fun (x0 : ((List (Int × (Int × Bool))) × Int)) => (((iLt x0.2 (lLen x)) = true → ((((0 : Int) ≤ x0.2) ∧ (x0.2 < (((List.length x) : Int)))) ∧ (((iNat x0.2) < (List.length x)) ∧ ((ok_laws_toEvent ((lGet x (iNat x0.2) (0, 0, false)).1, (lGet x (iNat x0.2) (0, 0, false)).2.1, (lGet x (iNat x0.2) (0, 0, false)).2.2)) ∧ ((((0 : Int) ≤ x0.2) ∧ (x0.2 < (((List.length x0.1) : Int)))) ∧ ((iNat x0.2) < (List.length x0.1))))))) ∧ ((iLt x0.2 (lLen x)) = false → True))) ((lRep (lLen x) (0, 0, false)), 0))) := (ou_laws_toEventS x).trans (by kernel_rfl)
theorem ve_spec_IsEvent (x : Int × Int × Bool) : v_spec_IsEvent x = (bAnd (v_spec_l1In (x.1, 0, 1000000)) (v_spec_l1In (x.2.1, 0, 31))) := (vu_spec_IsEvent x).trans (by kernel_rfl)
theorem oe_spec_IsEvent (x : Int × Int × Bool) : ok_spec_IsEvent x = ((ok_spec_l1In (x.1, 0, 1000000)) ∧ (((v_spec_l1In (x.1, 0, 1000000)) = true → (ok_spec_l1In (x.2.1, 0, 31))) ∧ ((v_spec_l1In (x.1, 0, 1000000)) = false → True))) := (ou_spec_IsEvent x).trans (by kernel_rfl)
theorem ve_impl_IsEvent (x : Int × Int × Bool) : v_impl_IsEvent x = (bAnd (iGe x.1 0) (bAnd (iLe x.1 1000000) (bAnd (iGe x.2.1 0) (iLe x.2.1 31)))) := (vu_impl_IsEvent x).trans (by kernel_rfl)
theorem oe_impl_IsEvent (x : Int × Int × Bool) : ok_impl_IsEvent x = True := (ou_impl_IsEvent x).trans (by kernel_rfl)
theorem ve_laws_eqEvent (x : (Int × Int × Bool) × (Int × Int × Bool)) : v_laws_eqEvent x = (bAnd (bNot (iNe x.1.1 x.2.1)) (bAnd (bNot (iNe x.1.2.1 x.2.2.1)) (bNot (bNot (bIff x.1.2.2 x.2.2.2))))) := (vu_laws_eqEvent x).trans (by kernel_rfl)
theorem oe_laws_eqEvent (x : (Int × Int × Bool) × (Int × Int × Bool)) : ok_laws_eqEvent x = True := (ou_laws_eqEvent x).trans (by kernel_rfl)
theorem ve_laws_eqEventS (x : (List (Int × Int × Bool)) × (List (Int × Int × Bool))) : v_laws_eqEventS x = (bAnd (bNot (iNe (lLen x.1) (lLen x.2))) (bNot (iLt (loopV (fun (x0 : Int) => (bAnd (iLt x0 (lLen x.1)) (bNot (bNot (v_laws_eqEvent (((lGet x.1 (iNat x0) (0, 0, false)).1, (lGet x.1 (iNat x0) (0, 0, false)).2.1, (lGet x.1 (iNat x0) (0, 0, false)).2.2), (lGet x.2 (iNat x0) (0, 0, false)).1, (lGet x.2 (iNat x0) (0, 0, false)).2.1, (lGet x.2 (iNat x0) (0, 0, false)).2.2)))))) (fun (x0 : Int) => (iAdd Go.IntKind.i64 x0 1)) 0) (lLen x.1)))) := (vu_laws_eqEventS x).trans (by kernel_rfl)
theorem oe_laws_eqEventS (x : (List (Int × Int × Bool)) × (List (Int × Int × Bool))) : ok_laws_eqEventS x = (((iNe (lLen x.1) (lLen x.2)) = true → True) ∧ ((iNe (lLen x.1) (lLen x.2)) = false → (LoopOk (fun (x0 : Int) => (bAnd (iLt x0 (lLen x.1)) (bNot (bNot (v_laws_eqEvent (((lGet x.1 (iNat x0) (0, 0, false)).1, (lGet x.1 (iNat x0) (0, 0, false)).2.1, (lGet x.1 (iNat x0) (0, 0, false)).2.2), (lGet x.2 (iNat x0) (0, 0, false)).1, (lGet x.2 (iNat x0) (0, 0, false)).2.1, (lGet x.2 (iNat x0) (0, 0, false)).2.2)))))) (fun (x0 : Int) => (iAdd Go.IntKind.i64 x0 1)) (fun (x0 : Int) => (((iLt x0 (lLen x.1)) = true → ((((0 : Int) ≤ x0) ∧ (x0 < (((List.length x.1) : Int)))) ∧ (((iNat x0) < (List.length x.1)) ∧ ((((0 : Int) ≤ x0) ∧ (x0 < (((List.length x.2) : Int)))) ∧ (((iNat x0) < (List.length x.2)) ∧ (ok_laws_eqEvent (((lGet x.1 (iNat x0) (0, 0, false)).1, (lGet x.1 (iNat x0) (0, 0, false)).2.1, (lGet x.1 (iNat x0) (0, 0, false)).2.2), (lGet x.2 (iNat x0) (0, 0, false)).1, (lGet x.2 (iNat x0) (0, 0, false)).2.1, (lGet x.2 (iNat x0) (0, 0, false)).2.2))))))) ∧ ((iLt x0 (lLen x.1)) = false → True))) 0))) := (ou_laws_eqEventS x).trans (by kernel_rfl)
end
def sm_Event (_ : Int × Int × Bool) : Prop := True
def wl_Event (_ : Int × Int × Bool) : Prop := True
def sm_EventS (x : List (Int × Int × Bool)) : Prop := x.length ≤ 1048576 ∧ ∀ a ∈ x, sm_Event a
def wl_EventS (x : List (Int × Int × Bool)) : Prop := x.length ≤ 9223372036854775807 ∧ ∀ a ∈ x, wl_Event a
theorem sz_EventS (x : List (Int × Int × Bool)) (hw : wl_EventS x) (l : Int) (h0 : 0 ≤ l) (h1 : l ≤ 1048576) : ok_laws_szEventS (x, l) ∧ (v_laws_szEventS (x, l) < 0 ∨ (0 ≤ v_laws_szEventS (x, l) ∧ v_laws_szEventS (x, l) ≤ l ∧ sm_EventS x)) := by
  rw [oe_laws_szEventS, ve_laws_szEventS]
  have hl : x.length ≤ 9223372036854775807 := hw.1
  have hs : iSub .i64 l (lLen x) = l - x.length := by rw [lLen_eq]; exact iSub_i64 (by unfold In64; omega)
  refine ⟨trivial, ?_⟩
  simp only [hs, iLt_eq, bSel_eq, decide_eq_true_eq]
  split
  · left; omega
  · right; exact ⟨by omega, by omega, ⟨by omega, fun a _ => by simp [sm_Event]⟩⟩
theorem to_Event (x : Int × Int × Bool) (h : sm_Event x) : ok_laws_toEvent x ∧ v_laws_toEvent x = x := by
  rw [oe_laws_toEvent, ve_laws_toEvent]
  exact ⟨trivial, rfl⟩
theorem to_EventS (x : List (Int × Int × Bool)) (h : sm_EventS x) : ok_laws_toEventS x ∧ v_laws_toEventS x = x := by
  rw [oe_laws_toEventS, ve_laws_toEventS]
  obtain ⟨h1, h2⟩ := h
  have hY : ∀ i : Nat, i < x.length → ok_laws_toEvent ((x.getD i (0, 0, false)).1, (x.getD i (0, 0, false)).2.1, (x.getD i (0, 0, false)).2.2) ∧ v_laws_toEvent ((x.getD i (0, 0, false)).1, (x.getD i (0, 0, false)).2.1, (x.getD i (0, 0, false)).2.2) = x.getD i (0, 0, false) := fun i hi => to_Event _ (h2 _ (getD_mem x i (0, 0, false) hi))
  refine ⟨⟨⟨by rw [lLen_eq]; omega, roomy_of (by rw [lLen_eq]; omega) (by rw [lLen_eq]; omega) (by omega)⟩, copyg_ok x (0, 0, false) (0, 0, false) h1 (fun _ => rfl) (fun l i hi => by simp only [lSet_eq, lGet_eq, iNat_eq, Int.toNat_natCast]; rw [(hY i hi).2]) (fun l i hl hi => ?_)⟩, copyg_v x (0, 0, false) (0, 0, false) h1 (fun _ => rfl) (fun l i hi => by simp only [lSet_eq, lGet_eq, iNat_eq, Int.toNat_natCast]; rw [(hY i hi).2])⟩
  simp only [iLt_eq, lLen_eq, iNat_eq, lGet_eq, decide_eq_true_eq, Int.toNat_natCast]
  exact ⟨fun hh => ⟨by omega, by omega, (hY i (by omega)).1, by omega, by omega⟩, fun _ => trivial⟩
theorem eq_Event (a b : Int × Int × Bool) (h : sm_Event a) : ok_laws_eqEvent (a, b) ∧ (v_laws_eqEvent (a, b) = true ↔ a = b) := by
  obtain ⟨a0, a1, a2⟩ := a
  obtain ⟨b0, b1, b2⟩ := b
  rw [oe_laws_eqEvent, ve_laws_eqEvent]
  refine ⟨by simp, ?_⟩
  simp only [bNot_eq, bAnd_eq, bIff_eq, iNe_eq, Bool.and_eq_true, Bool.not_not, decide_eq_true_eq, Prod.mk.injEq, beq_iff_eq]
  try (constructor <;> intro h <;> simp_all)
theorem eq_EventS (a b : List (Int × Int × Bool)) (h : sm_EventS a) : ok_laws_eqEventS (a, b) ∧ (v_laws_eqEventS (a, b) = true ↔ a = b) := by
  rw [oe_laws_eqEventS, ve_laws_eqEventS]
  obtain ⟨h1, h2⟩ := h
  have hY : ∀ i : Nat, i < a.length → ok_laws_eqEvent (((lGet a i (0, 0, false)).1, (lGet a i (0, 0, false)).2.1, (lGet a i (0, 0, false)).2.2), ((lGet b i (0, 0, false)).1, (lGet b i (0, 0, false)).2.1, (lGet b i (0, 0, false)).2.2)) ∧ (v_laws_eqEvent (((lGet a i (0, 0, false)).1, (lGet a i (0, 0, false)).2.1, (lGet a i (0, 0, false)).2.2), ((lGet b i (0, 0, false)).1, (lGet b i (0, 0, false)).2.1, (lGet b i (0, 0, false)).2.2)) = true ↔ a.getD i (0, 0, false) = b.getD i (0, 0, false)) := fun i hi => by
    have := eq_Event (a.getD i (0, 0, false)) (b.getD i (0, 0, false)) (h2 _ (getD_mem a i (0, 0, false) hi))
    rw [lGet_eq, lGet_eq]; exact this
  by_cases hl : a.length = b.length
  · refine ⟨⟨fun _ => trivial, fun _ => eq_ok a b (0, 0, false) (fun i => bNot (v_laws_eqEvent (((lGet a i (0, 0, false)).1, (lGet a i (0, 0, false)).2.1, (lGet a i (0, 0, false)).2.2), ((lGet b i (0, 0, false)).1, (lGet b i (0, 0, false)).2.1, (lGet b i (0, 0, false)).2.2)))) hl (fun i hi => by simp only [bNot_eq, Bool.not_eq_false', (hY i hi).2]) (by omega) (fun i hi => by simp only [bAnd_eq, iLt_eq, lLen_eq, iNat_eq, bNot_eq, Int.toNat_natCast, Int.ofNat_lt]) (fun i hi => rfl) (fun i hi => ?_)⟩, ?_⟩
    · simp only [iLt_eq, lLen_eq, iNat_eq, decide_eq_true_eq, Int.toNat_natCast]
      exact ⟨fun hh => ⟨by omega, by omega, by omega, by omega, (hY i (by omega)).1⟩, fun _ => trivial⟩
    · have hv := eq_v (c := fun i : Int => bAnd (iLt i (lLen a)) (bNot ((fun i => bNot (v_laws_eqEvent (((lGet a i (0, 0, false)).1, (lGet a i (0, 0, false)).2.1, (lGet a i (0, 0, false)).2.2), ((lGet b i (0, 0, false)).1, (lGet b i (0, 0, false)).2.1, (lGet b i (0, 0, false)).2.2)))) i.toNat))) (f := fun i => iAdd .i64 i 1) a b (0, 0, false) (fun i => bNot (v_laws_eqEvent (((lGet a i (0, 0, false)).1, (lGet a i (0, 0, false)).2.1, (lGet a i (0, 0, false)).2.2), ((lGet b i (0, 0, false)).1, (lGet b i (0, 0, false)).2.1, (lGet b i (0, 0, false)).2.2)))) hl (fun i hi => by simp only [bNot_eq, Bool.not_eq_false', (hY i hi).2]) (by omega) (fun i hi => by simp only [bAnd_eq, iLt_eq, lLen_eq, bNot_eq, Int.toNat_natCast, Int.ofNat_lt]) (fun i hi => rfl)
      have e1 : bNot (iNe (lLen a) (lLen b)) = true := by rw [bNot_eq, iNe_eq, lLen_eq, lLen_eq, hl]; simp
      rw [e1, bAnd_eq true, Bool.true_and, bNot_eq (iLt _ (lLen a)), iLt_eq _ (lLen a)]
      simp only [← iNat_eq, lLen_eq] at hv ⊢
      simp only [Bool.not_eq_true', decide_eq_false_iff_not]
      rw [hv]; simp
  · have e1 : bNot (iNe (lLen a) (lLen b)) = false := by rw [bNot_eq, iNe_eq, lLen_eq, lLen_eq]; simp; omega
    refine ⟨⟨fun _ => trivial, fun h => ?_⟩, ?_⟩
    · rw [bNot_eq] at e1; rw [h] at e1; cases e1
    · rw [e1, bAnd_eq, Bool.false_and]; constructor
      · intro h; cases h
      · intro e; subst e; exact absurd rfl hl
theorem isEvent_eq (x : Int × Int × Bool) : v_spec_IsEvent x = v_impl_IsEvent x := by
  rw [ve_spec_IsEvent, ve_impl_IsEvent]; simp only [ve_spec_l1In, bAnd_eq, Bool.and_assoc]
theorem ok_isEvent (x : Int × Int × Bool) : ok_spec_IsEvent x ∧ ok_impl_IsEvent x := by
  rw [oe_spec_IsEvent, oe_impl_IsEvent]; simp [oe_spec_l1In]
theorem isEvent_key {x : Int × Int × Bool} (h : v_impl_IsEvent x = true) : 0 ≤ x.2.1 := by
  rw [ve_impl_IsEvent] at h
  simp only [bAnd_eq, iGe_eq, iLe_eq, Bool.and_eq_true, decide_eq_true_eq] at h
  exact h.2.2.1
theorem sel_same {α : Type} (c : Bool) (x : α) : bSel c x x = x := by rw [bSel_eq]; split <;> rfl
section
set_option maxRecDepth 8000
noncomputable def dc_laws_szComboS : DCode :=
  (.seq [1, 0] (.region [oi 0 4 0])
  (.seq [1] (.region [om 0 5 1,
 on 1 6 0,
 oa 2 7 (.len (.t 6)),
 oa 3 8 (.bin .sub (.t 5) (.t 7)),
 om 4 1 8])
  (.seq [1] (.seq [10, 1] (.region [om 0 9 1,
 oa 1 10 (.bin .lss (.t 9) (.c (.int .i64 0)))])
  (.cond (.t 10) (.seq [4] (.region [oi 0 4 (-1)])
  .ret) .skip))
  (.seq [4] (.region [om 0 11 1,
 om 1 4 11])
  .ret))))
noncomputable def df_laws_szComboS : DFun := ⟨2, 12, 0, true, [.tmp 4], dc_laws_szComboS⟩
noncomputable def pf_laws_szComboS : PFun := df_laws_szComboS.er
noncomputable def f_laws_szComboS : AFun := pf_laws_szComboS.er
@[irreducible] noncomputable def s_laws_szComboS : CallSem := funSem f_laws_szComboS
@[irreducible] noncomputable def p_laws_szComboS : PSem := pfunSem pf_laws_szComboS
theorem sp_laws_szComboS : SoundP s_laws_szComboS p_laws_szComboS := by unfold s_laws_szComboS p_laws_szComboS; exact pfun_sound (f := pf_laws_szComboS) trivial
def h_laws_szComboS : List HT := [.one .frz (.sl (.cons (.int .i64) (.one (.int .i64)))), .one .frz (.int .i64)]
def q_laws_szComboS : QT := .one (.one .own (.int .i64))
@[irreducible] noncomputable def v_laws_szComboS (x : (List (Int × Int)) × Int) : Int := (shut fun x => fnV df_laws_szComboS h_laws_szComboS q_laws_szComboS x).1 x
@[irreducible] noncomputable def ok_laws_szComboS (x : (List (Int × Int)) × Int) : Prop := (shut fun x => fnOk df_laws_szComboS h_laws_szComboS q_laws_szComboS x).1 x
theorem vu_laws_szComboS (x : (List (Int × Int)) × Int) : v_laws_szComboS x = fnV df_laws_szComboS h_laws_szComboS q_laws_szComboS x := by unfold v_laws_szComboS; exact congrFun (shut _).2 x
theorem ou_laws_szComboS (x : (List (Int × Int)) × Int) : ok_laws_szComboS x = fnOk df_laws_szComboS h_laws_szComboS q_laws_szComboS x := by unfold ok_laws_szComboS; exact congrFun (shut _).2 x
noncomputable def D_laws_szComboS : DSem := DSemOf h_laws_szComboS q_laws_szComboS ok_laws_szComboS v_laws_szComboS
theorem ck_laws_szComboS (x : (List (Int × Int)) × Int) : fnChk df_laws_szComboS h_laws_szComboS q_laws_szComboS x = true := by kernel_rfl
theorem ob_laws_szComboS : AllD df_laws_szComboS.body.obs := trivial
theorem st_laws_szComboS : fnSt df_laws_szComboS h_laws_szComboS q_laws_szComboS = true := by kernel_rfl
theorem sd_laws_szComboS : SoundD p_laws_szComboS D_laws_szComboS := by unfold p_laws_szComboS; exact soundD_of (f := df_laws_szComboS) (hs := h_laws_szComboS) (q := q_laws_szComboS) ob_laws_szComboS st_laws_szComboS ck_laws_szComboS (fun x h => Eq.mp (ou_laws_szComboS x) h) (fun x => (vu_laws_szComboS x).symm)
noncomputable def dc_laws_toCombo : DCode :=
  (.seq [2, 1] (.region [oa 0 1 (.boxB 0 2 (.t 0)),
 oa 1 2 (.allocB 1 [(.int .i64 0), (.int .i64 0)])])
  (.seq [3, 2, 1] (.region [oa 0 3 (.allocB 2 [(.int .i64 0), (.int .i64 0)])])
  (.seq [3, 2, 1] (.region [oa 0 4 (.fieldA 0 (.t 1)),
 ob 1 5 (.loadB 0 none (.t 4)),
 oa 2 6 (.fieldA 0 (.t 3)),
 os 3 (.storeB 2 1 (.t 6) (.t 5))])
  (.seq [3, 2] (.region [oa 0 7 (.fieldA 1 (.t 1)),
 ob 1 8 (.loadB 0 none (.t 7)),
 oa 2 9 (.fieldA 1 (.t 3)),
 os 3 (.storeB 2 1 (.t 9) (.t 8))])
  (.seq [2] (.region [ob 0 10 (.loadB 2 (some 2) (.t 3)),
 os 1 (.storeB 1 2 (.t 2) (.t 10))])
  .ret)))))
noncomputable def df_laws_toCombo : DFun := ⟨1, 11, 3, true, [.cell 2 (some 2)], dc_laws_toCombo⟩
noncomputable def pf_laws_toCombo : PFun := df_laws_toCombo.er
noncomputable def f_laws_toCombo : AFun := pf_laws_toCombo.er
@[irreducible] noncomputable def s_laws_toCombo : CallSem := funSem f_laws_toCombo
@[irreducible] noncomputable def p_laws_toCombo : PSem := pfunSem pf_laws_toCombo
theorem sp_laws_toCombo : SoundP s_laws_toCombo p_laws_toCombo := by unfold s_laws_toCombo p_laws_toCombo; exact pfun_sound (f := pf_laws_toCombo) trivial
def h_laws_toCombo : List HT := [.agg [(.frz, .int .i64), (.frz, .int .i64)]]
def q_laws_toCombo : QT := .one (.agg [(.own, .int .i64), (.own, .int .i64)])
@[irreducible] noncomputable def v_laws_toCombo (x : Int × Int) : Int × Int := (shut fun x => fnV df_laws_toCombo h_laws_toCombo q_laws_toCombo x).1 x
@[irreducible] noncomputable def ok_laws_toCombo (x : Int × Int) : Prop := (shut fun x => fnOk df_laws_toCombo h_laws_toCombo q_laws_toCombo x).1 x
theorem vu_laws_toCombo (x : Int × Int) : v_laws_toCombo x = fnV df_laws_toCombo h_laws_toCombo q_laws_toCombo x := by unfold v_laws_toCombo; exact congrFun (shut _).2 x
theorem ou_laws_toCombo (x : Int × Int) : ok_laws_toCombo x = fnOk df_laws_toCombo h_laws_toCombo q_laws_toCombo x := by unfold ok_laws_toCombo; exact congrFun (shut _).2 x
noncomputable def D_laws_toCombo : DSem := DSemOf h_laws_toCombo q_laws_toCombo ok_laws_toCombo v_laws_toCombo
theorem ck_laws_toCombo (x : Int × Int) : fnChk df_laws_toCombo h_laws_toCombo q_laws_toCombo x = true := by kernel_rfl
theorem ob_laws_toCombo : AllD df_laws_toCombo.body.obs := trivial
theorem st_laws_toCombo : fnSt df_laws_toCombo h_laws_toCombo q_laws_toCombo = true := by kernel_rfl
theorem sd_laws_toCombo : SoundD p_laws_toCombo D_laws_toCombo := by unfold p_laws_toCombo; exact soundD_of (f := df_laws_toCombo) (hs := h_laws_toCombo) (q := q_laws_toCombo) ob_laws_toCombo st_laws_toCombo ck_laws_toCombo (fun x h => Eq.mp (ou_laws_toCombo x) h) (fun x => (vu_laws_toCombo x).symm)
noncomputable def dc_laws_toComboS : DCode :=
  (.seq [0] (.region [oa 0 2 (.mv (.c .nils))])
  (.seq [3, 0] (.region [on 0 5 0,
 oa 1 6 (.len (.t 5)),
 ⟨2, some 7, .a false (.mkSlice 2 [(.int .i64 0), (.int .i64 0)] (.t 6)) (some (.cons (.int .i64) (.one (.int .i64)))), none, []⟩,
 om 3 3 7])
  (.seq [3] (.seq [4, 3, 0] (.region [oi 0 4 0])
  (.block 0 (.loop [0, 3, 4] 1 (.seq [4, 3, 0] (.seq [11, 4, 3, 0] (.region [om 0 8 4,
 on 1 9 0,
 oa 2 10 (.len (.t 9)),
 oa 3 11 (.bin .lss (.t 8) (.t 10))])
  (.cond (.t 11) .skip (.exit 0)))
  (.seq [4, 3, 0] (.block 1 (.region [on 0 14 3,
 om 1 15 4,
 on 2 16 0,
 om 3 17 4,
 oa 4 18 (.indexA 2 (.t 16) (.t 17)),
 oa 5 19 (.loadH (some 2) (.t 18)),
 oc 6 20 s_laws_toCombo p_laws_toCombo D_laws_toCombo [(.t 19)],
 oa 7 21 (.indexA 2 (.t 14) (.t 15)),
 os 8 (.storeH 2 (.t 21) (.t 20))]))
  (.region [om 0 12 4,
 oa 1 13 (.bin .add (.t 12) (.c (.int .i64 1))),
 om 2 4 13]))))))
  (.seq [2] (.region [om 0 22 3,
 om 1 2 22])
  .ret))))
noncomputable def df_laws_toComboS : DFun := ⟨1, 23, 0, false, [.tmp 2], dc_laws_toComboS⟩
noncomputable def pf_laws_toComboS : PFun := df_laws_toComboS.er
noncomputable def f_laws_toComboS : AFun := pf_laws_toComboS.er
@[irreducible] noncomputable def s_laws_toComboS : CallSem := funSem f_laws_toComboS
@[irreducible] noncomputable def p_laws_toComboS : PSem := pfunSem pf_laws_toComboS
theorem sp_laws_toComboS : SoundP s_laws_toComboS p_laws_toComboS := by unfold s_laws_toComboS p_laws_toComboS; exact pfun_sound (f := pf_laws_toComboS) ⟨sp_laws_toCombo, trivial⟩
def h_laws_toComboS : List HT := [.one .frz (.sl (.cons (.int .i64) (.one (.int .i64))))]
def q_laws_toComboS : QT := .one (.one .own (.sl (.cons (.int .i64) (.one (.int .i64)))))
@[irreducible] noncomputable def v_laws_toComboS (x : List (Int × Int)) : List (Int × Int) := (shut fun x => fnV df_laws_toComboS h_laws_toComboS q_laws_toComboS x).1 x
@[irreducible] noncomputable def ok_laws_toComboS (x : List (Int × Int)) : Prop := (shut fun x => fnOk df_laws_toComboS h_laws_toComboS q_laws_toComboS x).1 x
theorem vu_laws_toComboS (x : List (Int × Int)) : v_laws_toComboS x = fnV df_laws_toComboS h_laws_toComboS q_laws_toComboS x := by unfold v_laws_toComboS; exact congrFun (shut _).2 x
theorem ou_laws_toComboS (x : List (Int × Int)) : ok_laws_toComboS x = fnOk df_laws_toComboS h_laws_toComboS q_laws_toComboS x := by unfold ok_laws_toComboS; exact congrFun (shut _).2 x
noncomputable def D_laws_toComboS : DSem := DSemOf h_laws_toComboS q_laws_toComboS ok_laws_toComboS v_laws_toComboS
theorem ck_laws_toComboS (x : List (Int × Int)) : fnChk df_laws_toComboS h_laws_toComboS q_laws_toComboS x = true := by kernel_rfl
theorem ob_laws_toComboS : AllD df_laws_toComboS.body.obs := ⟨sd_laws_toCombo, trivial⟩
theorem st_laws_toComboS : fnSt df_laws_toComboS h_laws_toComboS q_laws_toComboS = true := by kernel_rfl
theorem sd_laws_toComboS : SoundD p_laws_toComboS D_laws_toComboS := by unfold p_laws_toComboS; exact soundD_of (f := df_laws_toComboS) (hs := h_laws_toComboS) (q := q_laws_toComboS) ob_laws_toComboS st_laws_toComboS ck_laws_toComboS (fun x h => Eq.mp (ou_laws_toComboS x) h) (fun x => (vu_laws_toComboS x).symm)
noncomputable def dc_spec_l11Count : DCode :=
  (.seq [0] (.region [oi 0 2 0])
  (.seq [3, 0] (.region [oi 0 3 0])
  (.seq [3] (.seq [4, 3, 0] (.region [oi 0 4 0])
  (.block 0 (.loop [0, 3, 4] 1 (.seq [4, 3, 0] (.seq [6, 4, 3, 0] (.region [om 0 5 4,
 oa 1 6 (.bin .leq (.t 5) (.c (.int .i64 31)))])
  (.cond (.t 6) .skip (.exit 0)))
  (.seq [4, 3, 0] (.block 1 (.region [om 0 9 3,
 om 1 10 0,
 om 2 11 4,
 oa 3 12 (.bin .shr (.t 10) (.t 11)),
 oa 4 13 (.bin .and (.t 12) (.c (.int .i64 1))),
 oa 5 14 (.bin .add (.t 9) (.t 13)),
 om 6 3 14]))
  (.region [om 0 7 4,
 oa 1 8 (.bin .add (.t 7) (.c (.int .i64 1))),
 om 2 4 8]))))))
  (.seq [2] (.region [om 0 15 3,
 om 1 2 15])
  .ret))))
noncomputable def df_spec_l11Count : DFun := ⟨1, 16, 0, true, [.tmp 2], dc_spec_l11Count⟩
noncomputable def pf_spec_l11Count : PFun := df_spec_l11Count.er
noncomputable def f_spec_l11Count : AFun := pf_spec_l11Count.er
@[irreducible] noncomputable def s_spec_l11Count : CallSem := funSem f_spec_l11Count
@[irreducible] noncomputable def p_spec_l11Count : PSem := pfunSem pf_spec_l11Count
theorem sp_spec_l11Count : SoundP s_spec_l11Count p_spec_l11Count := by unfold s_spec_l11Count p_spec_l11Count; exact pfun_sound (f := pf_spec_l11Count) trivial
def h_spec_l11Count : List HT := [.one .frz (.int .i64)]
def q_spec_l11Count : QT := .one (.one .own (.int .i64))
@[irreducible] noncomputable def v_spec_l11Count (x : Int) : Int := (shut fun x => fnV df_spec_l11Count h_spec_l11Count q_spec_l11Count x).1 x
@[irreducible] noncomputable def ok_spec_l11Count (x : Int) : Prop := (shut fun x => fnOk df_spec_l11Count h_spec_l11Count q_spec_l11Count x).1 x
theorem vu_spec_l11Count (x : Int) : v_spec_l11Count x = fnV df_spec_l11Count h_spec_l11Count q_spec_l11Count x := by unfold v_spec_l11Count; exact congrFun (shut _).2 x
theorem ou_spec_l11Count (x : Int) : ok_spec_l11Count x = fnOk df_spec_l11Count h_spec_l11Count q_spec_l11Count x := by unfold ok_spec_l11Count; exact congrFun (shut _).2 x
noncomputable def D_spec_l11Count : DSem := DSemOf h_spec_l11Count q_spec_l11Count ok_spec_l11Count v_spec_l11Count
theorem ck_spec_l11Count (x : Int) : fnChk df_spec_l11Count h_spec_l11Count q_spec_l11Count x = true := by kernel_rfl
theorem ob_spec_l11Count : AllD df_spec_l11Count.body.obs := trivial
theorem st_spec_l11Count : fnSt df_spec_l11Count h_spec_l11Count q_spec_l11Count = true := by kernel_rfl
theorem sd_spec_l11Count : SoundD p_spec_l11Count D_spec_l11Count := by unfold p_spec_l11Count; exact soundD_of (f := df_spec_l11Count) (hs := h_spec_l11Count) (q := q_spec_l11Count) ob_spec_l11Count st_spec_l11Count ck_spec_l11Count (fun x h => Eq.mp (ou_spec_l11Count x) h) (fun x => (vu_spec_l11Count x).symm)
noncomputable def dc_spec_IsCombos : DCode :=
  (.seq [0] (.region [oa 0 2 (.mv (.c (.bool false)))])
  (.seq [0] (.seq [3, 0] (.region [oi 0 3 0])
  (.block 0 (.loop [0, 3] 1 (.seq [3, 0] (.seq [8, 3, 0] (.region [om 0 5 3,
 on 1 6 0,
 oa 2 7 (.len (.t 6)),
 oa 3 8 (.bin .lss (.t 5) (.t 7))])
  (.cond (.t 8) .skip (.exit 0)))
  (.seq [3, 0] (.block 1 (.seq [3, 0] (.seq [36, 3, 0] (.region [on 0 11 0,
 om 1 12 3,
 oa 2 13 (.indexA 2 (.t 11) (.t 12)),
 oa 3 14 (.fieldA 0 (.t 13)),
 oa 4 15 (.loadH none (.t 14)),
 oc 5 16 s_spec_l1In p_spec_l1In D_spec_l1In [(.t 15), (.c (.int .i64 0)), (.c (.int .i64 16777215))],
 oa 6 17 (.un .not (.t 16)),
 om 7 18 17,
 ⟨8, some 19, .a true (.mv (.t 0)) none, (some (18, false)), []⟩,
 og 9 20 (.mv (.t 3)) 18 false,
 og 10 21 (.indexA 2 (.t 19) (.t 20)) 18 false,
 og 11 22 (.fieldA 0 (.t 21)) 18 false,
 og 12 23 (.loadH none (.t 22)) 18 false,
 ⟨13, some 24, .call false s_spec_l11Count p_spec_l11Count D_spec_l11Count [(.t 23)], (some (18, false)), []⟩,
 ⟨14, some 25, .call false s_spec_l1In p_spec_l1In D_spec_l1In [(.t 24), (.c (.int .i64 2)), (.c (.int .i64 4))], (some (18, false)), []⟩,
 og 15 26 (.un .not (.t 25)) 18 false,
 oa 16 27 (.pick (.t 18) (.c (.bool true)) (.t 26)),
 om 17 28 27,
 ⟨18, some 29, .a true (.mv (.t 0)) none, (some (28, false)), []⟩,
 og 19 30 (.mv (.t 3)) 28 false,
 og 20 31 (.indexA 2 (.t 29) (.t 30)) 28 false,
 og 21 32 (.fieldA 1 (.t 31)) 28 false,
 og 22 33 (.loadH none (.t 32)) 28 false,
 ⟨23, some 34, .call false s_spec_l1In p_spec_l1In D_spec_l1In [(.t 33), (.c (.int .i64 24)), (.c (.int .i64 31))], (some (28, false)), []⟩,
 og 24 35 (.un .not (.t 34)) 28 false,
 oa 25 36 (.pick (.t 28) (.c (.bool true)) (.t 35))])
  (.cond (.t 36) (.seq [2] (.region [oa 0 2 (.mv (.c (.bool false)))])
  .ret) .skip))
  (.seq [4, 3, 0] (.region [oi 0 4 0])
  (.block 2 (.loop [0, 3, 4] 1 (.seq [4, 3, 0] (.seq [39, 4, 3, 0] (.region [om 0 37 4,
 om 1 38 3,
 oa 2 39 (.bin .lss (.t 37) (.t 38))])
  (.cond (.t 39) .skip (.exit 2)))
  (.seq [4, 3, 0] (.block 3 (.seq [65, 4, 3, 0] (.region [on 0 42 0,
 om 1 43 4,
 xA 2 44 (.indexA 2 (.t 42) (.t 43)) (rg 2),
 xA 3 45 (.fieldA 0 (.t 44)) (rg 3),
 xA 4 46 (.loadH none (.t 45)) (rg 4),
 on 5 47 0,
 om 6 48 3,
 xA 7 49 (.indexA 2 (.t 47) (.t 48)) [5, 6],
 xA 8 50 (.fieldA 0 (.t 49)) [5, 6, 7],
 xA 9 51 (.loadH none (.t 50)) [5, 6, 7, 8],
 xA 10 52 (.bin .eql (.t 46) (.t 51)) (rg 10),
 xA 11 53 (.mv (.t 52)) (rg 11),
 ⟨12, some 54, .a true (.mv (.t 0)) none, (some (53, false)), [0, 1, 2, 3, 4, 5, 6, 7, 8, 9, 10, 11]⟩,
 ⟨13, some 55, .a false (.mv (.t 4)) none, (some (53, false)), [0, 1, 2, 3, 4, 5, 6, 7, 8, 9, 10, 11]⟩,
 ⟨14, some 56, .a false (.indexA 2 (.t 54) (.t 55)) none, (some (53, false)), [0, 1, 2, 3, 4, 5, 6, 7, 8, 9, 10, 11, 12, 13]⟩,
 ⟨15, some 57, .a false (.fieldA 1 (.t 56)) none, (some (53, false)), [0, 1, 2, 3, 4, 5, 6, 7, 8, 9, 10, 11, 12, 13, 14]⟩,
 ⟨16, some 58, .a false (.loadH none (.t 57)) none, (some (53, false)), [0, 1, 2, 3, 4, 5, 6, 7, 8, 9, 10, 11, 12, 13, 14, 15]⟩,
 ⟨17, some 59, .a true (.mv (.t 0)) none, (some (53, false)), [0, 1, 2, 3, 4, 5, 6, 7, 8, 9, 10, 11]⟩,
 ⟨18, some 60, .a false (.mv (.t 3)) none, (some (53, false)), [0, 1, 2, 3, 4, 5, 6, 7, 8, 9, 10, 11]⟩,
 ⟨19, some 61, .a false (.indexA 2 (.t 59) (.t 60)) none, (some (53, false)), [0, 1, 2, 3, 4, 5, 6, 7, 8, 9, 10, 11, 17, 18]⟩,
 ⟨20, some 62, .a false (.fieldA 1 (.t 61)) none, (some (53, false)), [0, 1, 2, 3, 4, 5, 6, 7, 8, 9, 10, 11, 17, 18, 19]⟩,
 ⟨21, some 63, .a false (.loadH none (.t 62)) none, (some (53, false)), [0, 1, 2, 3, 4, 5, 6, 7, 8, 9, 10, 11, 17, 18, 19, 20]⟩,
 ⟨22, some 64, .a false (.bin .eql (.t 58) (.t 63)) none, (some (53, false)), [0, 1, 2, 3, 4, 5, 6, 7, 8, 9, 10, 11, 12, 13, 14, 15, 16, 17, 18, 19, 20, 21]⟩,
 xA 23 65 (.pick (.t 53) (.c (.bool true)) (.t 64)) (rg 23)])
  (.cond (.t 65) (.seq [2] (.region [oa 0 2 (.mv (.c (.bool false)))])
  .ret) .skip)))
  (.region [om 0 40 4,
 oa 1 41 (.bin .add (.t 40) (.c (.int .i64 1))),
 om 2 4 41]))))))))
  (.region [om 0 9 3,
 oa 1 10 (.bin .add (.t 9) (.c (.int .i64 1))),
 om 2 3 10]))))))
  (.seq [2] (.region [on 0 66 0,
 oa 1 67 (.len (.t 66)),
 oa 2 68 (.bin .leq (.t 67) (.c (.int .i64 8))),
 om 3 2 68])
  .ret)))
noncomputable def df_spec_IsCombos : DFun := ⟨1, 69, 0, true, [.tmp 2], dc_spec_IsCombos⟩
noncomputable def pf_spec_IsCombos : PFun := df_spec_IsCombos.er
noncomputable def f_spec_IsCombos : AFun := pf_spec_IsCombos.er
@[irreducible] noncomputable def s_spec_IsCombos : CallSem := funSem f_spec_IsCombos
@[irreducible] noncomputable def p_spec_IsCombos : PSem := pfunSem pf_spec_IsCombos
theorem sp_spec_IsCombos : SoundP s_spec_IsCombos p_spec_IsCombos := by unfold s_spec_IsCombos p_spec_IsCombos; exact pfun_sound (f := pf_spec_IsCombos) ⟨sp_spec_l1In, sp_spec_l11Count, sp_spec_l1In, sp_spec_l1In, trivial⟩
def h_spec_IsCombos : List HT := [.one .frz (.sl (.cons (.int .i64) (.one (.int .i64))))]
def q_spec_IsCombos : QT := .one (.one .own (.bool))
@[irreducible] noncomputable def v_spec_IsCombos (x : List (Int × Int)) : Bool := (shut fun x => fnV df_spec_IsCombos h_spec_IsCombos q_spec_IsCombos x).1 x
@[irreducible] noncomputable def ok_spec_IsCombos (x : List (Int × Int)) : Prop := (shut fun x => fnOk df_spec_IsCombos h_spec_IsCombos q_spec_IsCombos x).1 x
theorem vu_spec_IsCombos (x : List (Int × Int)) : v_spec_IsCombos x = fnV df_spec_IsCombos h_spec_IsCombos q_spec_IsCombos x := by unfold v_spec_IsCombos; exact congrFun (shut _).2 x
theorem ou_spec_IsCombos (x : List (Int × Int)) : ok_spec_IsCombos x = fnOk df_spec_IsCombos h_spec_IsCombos q_spec_IsCombos x := by unfold ok_spec_IsCombos; exact congrFun (shut _).2 x
noncomputable def D_spec_IsCombos : DSem := DSemOf h_spec_IsCombos q_spec_IsCombos ok_spec_IsCombos v_spec_IsCombos
theorem ck_spec_IsCombos (x : List (Int × Int)) : fnChk df_spec_IsCombos h_spec_IsCombos q_spec_IsCombos x = true := by kernel_rfl
theorem ob_spec_IsCombos : AllD df_spec_IsCombos.body.obs := ⟨sd_spec_l1In, sd_spec_l11Count, sd_spec_l1In, sd_spec_l1In, trivial⟩
theorem st_spec_IsCombos : fnSt df_spec_IsCombos h_spec_IsCombos q_spec_IsCombos = true := by kernel_rfl
theorem sd_spec_IsCombos : SoundD p_spec_IsCombos D_spec_IsCombos := by unfold p_spec_IsCombos; exact soundD_of (f := df_spec_IsCombos) (hs := h_spec_IsCombos) (q := q_spec_IsCombos) ob_spec_IsCombos st_spec_IsCombos ck_spec_IsCombos (fun x h => Eq.mp (ou_spec_IsCombos x) h) (fun x => (vu_spec_IsCombos x).symm)
noncomputable def dc_math_bits_OnesCount32 : DCode :=
  (.seq [0] (.region [oi 0 2 0])
  (.seq [2] (.region [om 0 3 0,
 xA 1 4 (.bin .shr (.t 3) (.c (.int .u64 24))) (rg 1),
 xA 2 5 (.index (.c (.str [0,1,1,2,1,2,2,3,1,2,2,3,2,3,3,4,1,2,2,3,2,3,3,4,2,3,3,4,3,4,4,5,1,2,2,3,2,3,3,4,2,3,3,4,3,4,4,5,2,3,3,4,3,4,4,5,3,4,4,5,4,5,5,6,1,2,2,3,2,3,3,4,2,3,3,4,3,4,4,5,2,3,3,4,3,4,4,5,3,4,4,5,4,5,5,6,2,3,3,4,3,4,4,5,3,4,4,5,4,5,5,6,3,4,4,5,4,5,5,6,4,5,5,6,5,6,6,7,1,2,2,3,2,3,3,4,2,3,3,4,3,4,4,5,2,3,3,4,3,4,4,5,3,4,4,5,4,5,5,6,2,3,3,4,3,4,4,5,3,4,4,5,4,5,5,6,3,4,4,5,4,5,5,6,4,5,5,6,5,6,6,7,2,3,3,4,3,4,4,5,3,4,4,5,4,5,5,6,3,4,4,5,4,5,5,6,4,5,5,6,5,6,6,7,3,4,4,5,4,5,5,6,4,5,5,6,5,6,6,7,4,5,5,6,5,6,6,7,5,6,6,7,6,7,7,8])) (.t 4)) (rg 2),
 om 3 6 0,
 xA 4 7 (.bin .shr (.t 6) (.c (.int .u64 16))) [3],
 xA 5 8 (.bin .and (.t 7) (.c (.int .u32 255))) [3, 4],
 xA 6 9 (.index (.c (.str [0,1,1,2,1,2,2,3,1,2,2,3,2,3,3,4,1,2,2,3,2,3,3,4,2,3,3,4,3,4,4,5,1,2,2,3,2,3,3,4,2,3,3,4,3,4,4,5,2,3,3,4,3,4,4,5,3,4,4,5,4,5,5,6,1,2,2,3,2,3,3,4,2,3,3,4,3,4,4,5,2,3,3,4,3,4,4,5,3,4,4,5,4,5,5,6,2,3,3,4,3,4,4,5,3,4,4,5,4,5,5,6,3,4,4,5,4,5,5,6,4,5,5,6,5,6,6,7,1,2,2,3,2,3,3,4,2,3,3,4,3,4,4,5,2,3,3,4,3,4,4,5,3,4,4,5,4,5,5,6,2,3,3,4,3,4,4,5,3,4,4,5,4,5,5,6,3,4,4,5,4,5,5,6,4,5,5,6,5,6,6,7,2,3,3,4,3,4,4,5,3,4,4,5,4,5,5,6,3,4,4,5,4,5,5,6,4,5,5,6,5,6,6,7,3,4,4,5,4,5,5,6,4,5,5,6,5,6,6,7,4,5,5,6,5,6,6,7,5,6,6,7,6,7,7,8])) (.t 8)) [3, 4, 5],
 xA 7 10 (.bin .add (.t 5) (.t 9)) (rg 7),
 om 8 11 0,
 xA 9 12 (.bin .shr (.t 11) (.c (.int .u64 8))) [8],
 xA 10 13 (.bin .and (.t 12) (.c (.int .u32 255))) [8, 9],
 xA 11 14 (.index (.c (.str [0,1,1,2,1,2,2,3,1,2,2,3,2,3,3,4,1,2,2,3,2,3,3,4,2,3,3,4,3,4,4,5,1,2,2,3,2,3,3,4,2,3,3,4,3,4,4,5,2,3,3,4,3,4,4,5,3,4,4,5,4,5,5,6,1,2,2,3,2,3,3,4,2,3,3,4,3,4,4,5,2,3,3,4,3,4,4,5,3,4,4,5,4,5,5,6,2,3,3,4,3,4,4,5,3,4,4,5,4,5,5,6,3,4,4,5,4,5,5,6,4,5,5,6,5,6,6,7,1,2,2,3,2,3,3,4,2,3,3,4,3,4,4,5,2,3,3,4,3,4,4,5,3,4,4,5,4,5,5,6,2,3,3,4,3,4,4,5,3,4,4,5,4,5,5,6,3,4,4,5,4,5,5,6,4,5,5,6,5,6,6,7,2,3,3,4,3,4,4,5,3,4,4,5,4,5,5,6,3,4,4,5,4,5,5,6,4,5,5,6,5,6,6,7,3,4,4,5,4,5,5,6,4,5,5,6,5,6,6,7,4,5,5,6,5,6,6,7,5,6,6,7,6,7,7,8])) (.t 13)) [8, 9, 10],
 xA 12 15 (.bin .add (.t 10) (.t 14)) (rg 12),
 om 13 16 0,
 xA 14 17 (.bin .and (.t 16) (.c (.int .u32 255))) [13],
 xA 15 18 (.index (.c (.str [0,1,1,2,1,2,2,3,1,2,2,3,2,3,3,4,1,2,2,3,2,3,3,4,2,3,3,4,3,4,4,5,1,2,2,3,2,3,3,4,2,3,3,4,3,4,4,5,2,3,3,4,3,4,4,5,3,4,4,5,4,5,5,6,1,2,2,3,2,3,3,4,2,3,3,4,3,4,4,5,2,3,3,4,3,4,4,5,3,4,4,5,4,5,5,6,2,3,3,4,3,4,4,5,3,4,4,5,4,5,5,6,3,4,4,5,4,5,5,6,4,5,5,6,5,6,6,7,1,2,2,3,2,3,3,4,2,3,3,4,3,4,4,5,2,3,3,4,3,4,4,5,3,4,4,5,4,5,5,6,2,3,3,4,3,4,4,5,3,4,4,5,4,5,5,6,3,4,4,5,4,5,5,6,4,5,5,6,5,6,6,7,2,3,3,4,3,4,4,5,3,4,4,5,4,5,5,6,3,4,4,5,4,5,5,6,4,5,5,6,5,6,6,7,3,4,4,5,4,5,5,6,4,5,5,6,5,6,6,7,4,5,5,6,5,6,6,7,5,6,6,7,6,7,7,8])) (.t 17)) [13, 14],
 xA 16 19 (.bin .add (.t 15) (.t 18)) (rg 16),
 xA 17 20 (.conv .i64 (.t 19)) (rg 17),
 xA 18 2 (.mv (.t 20)) (rg 18)])
  .ret))
noncomputable def df_math_bits_OnesCount32 : DFun := ⟨1, 21, 0, true, [.tmp 2], dc_math_bits_OnesCount32⟩
noncomputable def pf_math_bits_OnesCount32 : PFun := df_math_bits_OnesCount32.er
noncomputable def f_math_bits_OnesCount32 : AFun := pf_math_bits_OnesCount32.er
@[irreducible] noncomputable def s_math_bits_OnesCount32 : CallSem := funSem f_math_bits_OnesCount32
@[irreducible] noncomputable def p_math_bits_OnesCount32 : PSem := pfunSem pf_math_bits_OnesCount32
theorem sp_math_bits_OnesCount32 : SoundP s_math_bits_OnesCount32 p_math_bits_OnesCount32 := by unfold s_math_bits_OnesCount32 p_math_bits_OnesCount32; exact pfun_sound (f := pf_math_bits_OnesCount32) trivial
def h_math_bits_OnesCount32 : List HT := [.one .frz (.int .u32)]
def q_math_bits_OnesCount32 : QT := .one (.one .own (.int .i64))
@[irreducible] noncomputable def v_math_bits_OnesCount32 (x : Int) : Int := (shut fun x => fnV df_math_bits_OnesCount32 h_math_bits_OnesCount32 q_math_bits_OnesCount32 x).1 x
@[irreducible] noncomputable def ok_math_bits_OnesCount32 (x : Int) : Prop := (shut fun x => fnOk df_math_bits_OnesCount32 h_math_bits_OnesCount32 q_math_bits_OnesCount32 x).1 x
theorem vu_math_bits_OnesCount32 (x : Int) : v_math_bits_OnesCount32 x = fnV df_math_bits_OnesCount32 h_math_bits_OnesCount32 q_math_bits_OnesCount32 x := by unfold v_math_bits_OnesCount32; exact congrFun (shut _).2 x
theorem ou_math_bits_OnesCount32 (x : Int) : ok_math_bits_OnesCount32 x = fnOk df_math_bits_OnesCount32 h_math_bits_OnesCount32 q_math_bits_OnesCount32 x := by unfold ok_math_bits_OnesCount32; exact congrFun (shut _).2 x
noncomputable def D_math_bits_OnesCount32 : DSem := DSemOf h_math_bits_OnesCount32 q_math_bits_OnesCount32 ok_math_bits_OnesCount32 v_math_bits_OnesCount32
theorem ck_math_bits_OnesCount32 (x : Int) : fnChk df_math_bits_OnesCount32 h_math_bits_OnesCount32 q_math_bits_OnesCount32 x = true := by kernel_rfl
theorem ob_math_bits_OnesCount32 : AllD df_math_bits_OnesCount32.body.obs := trivial
theorem st_math_bits_OnesCount32 : fnSt df_math_bits_OnesCount32 h_math_bits_OnesCount32 q_math_bits_OnesCount32 = true := by kernel_rfl
theorem sd_math_bits_OnesCount32 : SoundD p_math_bits_OnesCount32 D_math_bits_OnesCount32 := by unfold p_math_bits_OnesCount32; exact soundD_of (f := df_math_bits_OnesCount32) (hs := h_math_bits_OnesCount32) (q := q_math_bits_OnesCount32) ob_math_bits_OnesCount32 st_math_bits_OnesCount32 ck_math_bits_OnesCount32 (fun x h => Eq.mp (ou_math_bits_OnesCount32 x) h) (fun x => (vu_math_bits_OnesCount32 x).symm)
noncomputable def dc_math_bits_OnesCount64 : DCode :=
  (.seq [0] (.region [oi 0 2 0])
  (.seq [0] (.region [om 0 3 0,
 oa 1 4 (.bin .shr (.t 3) (.c (.int .u64 1))),
 oa 2 5 (.bin .and (.t 4) (.c (.int .u64 6148914691236517205))),
 om 3 6 0,
 oa 4 7 (.bin .and (.t 6) (.c (.int .u64 6148914691236517205))),
 oa 5 8 (.bin .add (.t 5) (.t 7)),
 om 6 0 8])
  (.seq [0] (.region [om 0 9 0,
 oa 1 10 (.bin .shr (.t 9) (.c (.int .u64 2))),
 oa 2 11 (.bin .and (.t 10) (.c (.int .u64 3689348814741910323))),
 om 3 12 0,
 oa 4 13 (.bin .and (.t 12) (.c (.int .u64 3689348814741910323))),
 oa 5 14 (.bin .add (.t 11) (.t 13)),
 om 6 0 14])
  (.seq [0] (.region [om 0 15 0,
 oa 1 16 (.bin .shr (.t 15) (.c (.int .u64 4))),
 om 2 17 0,
 oa 3 18 (.bin .add (.t 16) (.t 17)),
 oa 4 19 (.bin .and (.t 18) (.c (.int .u64 1085102592571150095))),
 om 5 0 19])
  (.seq [0] (.region [om 0 20 0,
 om 1 21 0,
 oa 2 22 (.bin .shr (.t 21) (.c (.int .u64 8))),
 oa 3 23 (.bin .add (.t 20) (.t 22)),
 om 4 0 23])
  (.seq [0] (.region [om 0 24 0,
 om 1 25 0,
 oa 2 26 (.bin .shr (.t 25) (.c (.int .u64 16))),
 oa 3 27 (.bin .add (.t 24) (.t 26)),
 om 4 0 27])
  (.seq [0] (.region [om 0 28 0,
 om 1 29 0,
 oa 2 30 (.bin .shr (.t 29) (.c (.int .u64 32))),
 oa 3 31 (.bin .add (.t 28) (.t 30)),
 om 4 0 31])
  (.seq [2] (.region [om 0 32 0,
 oa 1 33 (.conv .i64 (.t 32)),
 oa 2 34 (.bin .and (.t 33) (.c (.int .i64 127))),
 om 3 2 34])
  .ret))))))))
noncomputable def df_math_bits_OnesCount64 : DFun := ⟨1, 35, 0, true, [.tmp 2], dc_math_bits_OnesCount64⟩
noncomputable def pf_math_bits_OnesCount64 : PFun := df_math_bits_OnesCount64.er
noncomputable def f_math_bits_OnesCount64 : AFun := pf_math_bits_OnesCount64.er
@[irreducible] noncomputable def s_math_bits_OnesCount64 : CallSem := funSem f_math_bits_OnesCount64
@[irreducible] noncomputable def p_math_bits_OnesCount64 : PSem := pfunSem pf_math_bits_OnesCount64
theorem sp_math_bits_OnesCount64 : SoundP s_math_bits_OnesCount64 p_math_bits_OnesCount64 := by unfold s_math_bits_OnesCount64 p_math_bits_OnesCount64; exact pfun_sound (f := pf_math_bits_OnesCount64) trivial
def h_math_bits_OnesCount64 : List HT := [.one .frz (.int .u64)]
def q_math_bits_OnesCount64 : QT := .one (.one .own (.int .i64))
@[irreducible] noncomputable def v_math_bits_OnesCount64 (x : Int) : Int := (shut fun x => fnV df_math_bits_OnesCount64 h_math_bits_OnesCount64 q_math_bits_OnesCount64 x).1 x
@[irreducible] noncomputable def ok_math_bits_OnesCount64 (x : Int) : Prop := (shut fun x => fnOk df_math_bits_OnesCount64 h_math_bits_OnesCount64 q_math_bits_OnesCount64 x).1 x
theorem vu_math_bits_OnesCount64 (x : Int) : v_math_bits_OnesCount64 x = fnV df_math_bits_OnesCount64 h_math_bits_OnesCount64 q_math_bits_OnesCount64 x := by unfold v_math_bits_OnesCount64; exact congrFun (shut _).2 x
theorem ou_math_bits_OnesCount64 (x : Int) : ok_math_bits_OnesCount64 x = fnOk df_math_bits_OnesCount64 h_math_bits_OnesCount64 q_math_bits_OnesCount64 x := by unfold ok_math_bits_OnesCount64; exact congrFun (shut _).2 x
noncomputable def D_math_bits_OnesCount64 : DSem := DSemOf h_math_bits_OnesCount64 q_math_bits_OnesCount64 ok_math_bits_OnesCount64 v_math_bits_OnesCount64
theorem ck_math_bits_OnesCount64 (x : Int) : fnChk df_math_bits_OnesCount64 h_math_bits_OnesCount64 q_math_bits_OnesCount64 x = true := by kernel_rfl
theorem ob_math_bits_OnesCount64 : AllD df_math_bits_OnesCount64.body.obs := trivial
theorem st_math_bits_OnesCount64 : fnSt df_math_bits_OnesCount64 h_math_bits_OnesCount64 q_math_bits_OnesCount64 = true := by kernel_rfl
theorem sd_math_bits_OnesCount64 : SoundD p_math_bits_OnesCount64 D_math_bits_OnesCount64 := by unfold p_math_bits_OnesCount64; exact soundD_of (f := df_math_bits_OnesCount64) (hs := h_math_bits_OnesCount64) (q := q_math_bits_OnesCount64) ob_math_bits_OnesCount64 st_math_bits_OnesCount64 ck_math_bits_OnesCount64 (fun x h => Eq.mp (ou_math_bits_OnesCount64 x) h) (fun x => (vu_math_bits_OnesCount64 x).symm)
noncomputable def dc_math_bits_OnesCount : DCode :=
  (.seq [0] (.region [oi 0 2 0])
  (.seq [0] (.cond (.c (.bool false)) (.seq [2] (.region [om 0 3 0,
 oa 1 4 (.conv .u32 (.t 3)),
 oc 2 5 s_math_bits_OnesCount32 p_math_bits_OnesCount32 D_math_bits_OnesCount32 [(.t 4)],
 om 3 2 5])
  .ret) .skip)
  (.seq [2] (.region [om 0 6 0,
 oc 1 7 s_math_bits_OnesCount64 p_math_bits_OnesCount64 D_math_bits_OnesCount64 [(.t 6)],
 om 2 2 7])
  .ret)))
noncomputable def df_math_bits_OnesCount : DFun := ⟨1, 8, 0, true, [.tmp 2], dc_math_bits_OnesCount⟩
noncomputable def pf_math_bits_OnesCount : PFun := df_math_bits_OnesCount.er
noncomputable def f_math_bits_OnesCount : AFun := pf_math_bits_OnesCount.er
@[irreducible] noncomputable def s_math_bits_OnesCount : CallSem := funSem f_math_bits_OnesCount
@[irreducible] noncomputable def p_math_bits_OnesCount : PSem := pfunSem pf_math_bits_OnesCount
theorem sp_math_bits_OnesCount : SoundP s_math_bits_OnesCount p_math_bits_OnesCount := by unfold s_math_bits_OnesCount p_math_bits_OnesCount; exact pfun_sound (f := pf_math_bits_OnesCount) ⟨sp_math_bits_OnesCount32, sp_math_bits_OnesCount64, trivial⟩
def h_math_bits_OnesCount : List HT := [.one .frz (.int .u64)]
def q_math_bits_OnesCount : QT := .one (.one .own (.int .i64))
@[irreducible] noncomputable def v_math_bits_OnesCount (x : Int) : Int := (shut fun x => fnV df_math_bits_OnesCount h_math_bits_OnesCount q_math_bits_OnesCount x).1 x
@[irreducible] noncomputable def ok_math_bits_OnesCount (x : Int) : Prop := (shut fun x => fnOk df_math_bits_OnesCount h_math_bits_OnesCount q_math_bits_OnesCount x).1 x
theorem vu_math_bits_OnesCount (x : Int) : v_math_bits_OnesCount x = fnV df_math_bits_OnesCount h_math_bits_OnesCount q_math_bits_OnesCount x := by unfold v_math_bits_OnesCount; exact congrFun (shut _).2 x
theorem ou_math_bits_OnesCount (x : Int) : ok_math_bits_OnesCount x = fnOk df_math_bits_OnesCount h_math_bits_OnesCount q_math_bits_OnesCount x := by unfold ok_math_bits_OnesCount; exact congrFun (shut _).2 x
noncomputable def D_math_bits_OnesCount : DSem := DSemOf h_math_bits_OnesCount q_math_bits_OnesCount ok_math_bits_OnesCount v_math_bits_OnesCount
theorem ck_math_bits_OnesCount (x : Int) : fnChk df_math_bits_OnesCount h_math_bits_OnesCount q_math_bits_OnesCount x = true := by kernel_rfl
theorem ob_math_bits_OnesCount : AllD df_math_bits_OnesCount.body.obs := ⟨sd_math_bits_OnesCount32, sd_math_bits_OnesCount64, trivial⟩
theorem st_math_bits_OnesCount : fnSt df_math_bits_OnesCount h_math_bits_OnesCount q_math_bits_OnesCount = true := by kernel_rfl
theorem sd_math_bits_OnesCount : SoundD p_math_bits_OnesCount D_math_bits_OnesCount := by unfold p_math_bits_OnesCount; exact soundD_of (f := df_math_bits_OnesCount) (hs := h_math_bits_OnesCount) (q := q_math_bits_OnesCount) ob_math_bits_OnesCount st_math_bits_OnesCount ck_math_bits_OnesCount (fun x h => Eq.mp (ou_math_bits_OnesCount x) h) (fun x => (vu_math_bits_OnesCount x).symm)
noncomputable def dc_impl_IsCombos : DCode :=
  (.seq [0] (.region [oa 0 2 (.mv (.c (.bool false)))])
  (.seq [0] (.seq [10, 0] (.region [on 0 8 0,
 oa 1 9 (.len (.t 8)),
 oa 2 10 (.bin .gtr (.t 9) (.c (.int .i64 8)))])
  (.cond (.t 10) (.seq [2] (.region [oa 0 2 (.mv (.c (.bool false)))])
  .ret) .skip))
  (.seq [] (.seq [13, 12, 11, 0] (.region [on 0 11 0,
 oa 1 12 (.len (.t 11)),
 oi 2 13 0])
  (.block 0 (.loop [0, 11, 12, 13] 1 (.seq [14, 13, 12, 11, 0] (.region [oa 0 14 (.bin .lss (.t 13) (.t 12))])
  (.seq [13, 12, 11, 0] (.cond (.t 14) .skip (.exit 0))
  (.seq [13, 12, 11, 0] (.block 1 (.seq [13, 12, 11, 4, 3, 0] (.region [om 0 15 13,
 oa 1 16 (.indexA 2 (.t 11) (.t 13)),
 ob 2 17 (.loadH (some 2) (.t 16)),
 oa 3 4 (.allocB 0 [(.int .i64 0), (.int .i64 0)]),
 om 4 3 15,
 os 5 (.storeB 0 2 (.t 4) (.t 17))])
  (.seq [13, 12, 11, 4, 3, 0] (.seq [35, 13, 12, 11, 4, 3, 0] (.region [oa 0 18 (.fieldA 0 (.t 4)),
 oa 1 19 (.loadB 0 none (.t 18)),
 oa 2 20 (.bin .lss (.t 19) (.c (.int .i64 0))),
 om 3 21 20,
 og 4 22 (.fieldA 0 (.t 4)) 21 false,
 og 5 23 (.loadB 0 none (.t 22)) 21 false,
 og 6 24 (.bin .gtr (.t 23) (.c (.int .i64 16777215))) 21 false,
 oa 7 25 (.pick (.t 21) (.c (.bool true)) (.t 24)),
 om 8 26 25,
 og 9 27 (.fieldA 1 (.t 4)) 26 false,
 og 10 28 (.loadB 0 none (.t 27)) 26 false,
 og 11 29 (.bin .lss (.t 28) (.c (.int .i64 24))) 26 false,
 oa 12 30 (.pick (.t 26) (.c (.bool true)) (.t 29)),
 om 13 31 30,
 og 14 32 (.fieldA 1 (.t 4)) 31 false,
 og 15 33 (.loadB 0 none (.t 32)) 31 false,
 og 16 34 (.bin .gtr (.t 33) (.c (.int .i64 31))) 31 false,
 oa 17 35 (.pick (.t 31) (.c (.bool true)) (.t 34))])
  (.cond (.t 35) (.seq [2] (.region [oa 0 2 (.mv (.c (.bool false)))])
  .ret) .skip))
  (.seq [13, 12, 11, 4, 3, 0] (.seq [13, 12, 11, 5, 4, 3, 0] (.region [oa 0 36 (.fieldA 0 (.t 4)),
 oa 1 37 (.loadB 0 none (.t 36)),
 oa 2 38 (.conv .u64 (.t 37)),
 oc 3 39 s_math_bits_OnesCount p_math_bits_OnesCount D_math_bits_OnesCount [(.t 38)],
 om 4 5 39])
  (.seq [45, 13, 12, 11, 4, 3, 0] (.region [om 0 40 5,
 oa 1 41 (.bin .lss (.t 40) (.c (.int .i64 2))),
 om 2 42 41,
 og 3 43 (.mv (.t 5)) 42 false,
 og 4 44 (.bin .gtr (.t 43) (.c (.int .i64 4))) 42 false,
 oa 5 45 (.pick (.t 42) (.c (.bool true)) (.t 44))])
  (.cond (.t 45) (.seq [2] (.region [oa 0 2 (.mv (.c (.bool false)))])
  .ret) .skip)))
  (.seq [50, 49, 48, 13, 12, 11, 4, 0] (.region [on 0 46 0,
 om 1 47 3,
 oa 2 48 (.slice 2 (.t 46) none (some (.t 47))),
 oa 3 49 (.len (.t 48)),
 oi 4 50 0])
  (.block 2 (.loop [0, 4, 11, 12, 13, 48, 49, 50] 1 (.seq [51, 50, 49, 48, 13, 12, 11, 4, 0] (.region [oa 0 51 (.bin .lss (.t 50) (.t 49))])
  (.seq [50, 49, 48, 13, 12, 11, 4, 0] (.cond (.t 51) .skip (.exit 2))
  (.seq [50, 49, 48, 13, 12, 11, 4, 0] (.block 3 (.seq [50, 49, 48, 13, 12, 11, 7, 4, 0] (.region [oa 0 52 (.indexA 2 (.t 48) (.t 50)),
 ob 1 53 (.loadH (some 2) (.t 52)),
 oa 2 7 (.allocB 1 [(.int .i64 0), (.int .i64 0)]),
 os 3 (.storeB 1 2 (.t 7) (.t 53))])
  (.seq [65, 50, 49, 48, 13, 12, 11, 4, 0] (.region [oa 0 54 (.fieldA 0 (.t 7)),
 oa 1 55 (.loadB 1 none (.t 54)),
 oa 2 56 (.fieldA 0 (.t 4)),
 oa 3 57 (.loadB 0 none (.t 56)),
 oa 4 58 (.bin .eql (.t 55) (.t 57)),
 om 5 59 58,
 og 6 60 (.fieldA 1 (.t 7)) 59 false,
 og 7 61 (.loadB 1 none (.t 60)) 59 false,
 og 8 62 (.fieldA 1 (.t 4)) 59 false,
 og 9 63 (.loadB 0 none (.t 62)) 59 false,
 og 10 64 (.bin .eql (.t 61) (.t 63)) 59 false,
 oa 11 65 (.pick (.t 59) (.c (.bool true)) (.t 64))])
  (.cond (.t 65) (.seq [2] (.region [oa 0 2 (.mv (.c (.bool false)))])
  .ret) .skip))))
  (.region [oa 0 66 (.bin .add (.t 50) (.c (.int .i64 1))),
 om 1 50 66])))))))))))
  (.region [oa 0 67 (.bin .add (.t 13) (.c (.int .i64 1))),
 om 1 13 67])))))))
  (.seq [2] (.region [oa 0 2 (.mv (.c (.bool true)))])
  .ret))))
noncomputable def df_impl_IsCombos : DFun := ⟨1, 68, 2, true, [.tmp 2], dc_impl_IsCombos⟩
noncomputable def pf_impl_IsCombos : PFun := df_impl_IsCombos.er
noncomputable def f_impl_IsCombos : AFun := pf_impl_IsCombos.er
@[irreducible] noncomputable def s_impl_IsCombos : CallSem := funSem f_impl_IsCombos
@[irreducible] noncomputable def p_impl_IsCombos : PSem := pfunSem pf_impl_IsCombos
theorem sp_impl_IsCombos : SoundP s_impl_IsCombos p_impl_IsCombos := by unfold s_impl_IsCombos p_impl_IsCombos; exact pfun_sound (f := pf_impl_IsCombos) ⟨sp_math_bits_OnesCount, trivial⟩
def h_impl_IsCombos : List HT := [.one .frz (.sl (.cons (.int .i64) (.one (.int .i64))))]
def q_impl_IsCombos : QT := .one (.one .own (.bool))
@[irreducible] noncomputable def v_impl_IsCombos (x : List (Int × Int)) : Bool := (shut fun x => fnV df_impl_IsCombos h_impl_IsCombos q_impl_IsCombos x).1 x
@[irreducible] noncomputable def ok_impl_IsCombos (x : List (Int × Int)) : Prop := (shut fun x => fnOk df_impl_IsCombos h_impl_IsCombos q_impl_IsCombos x).1 x
theorem vu_impl_IsCombos (x : List (Int × Int)) : v_impl_IsCombos x = fnV df_impl_IsCombos h_impl_IsCombos q_impl_IsCombos x := by unfold v_impl_IsCombos; exact congrFun (shut _).2 x
theorem ou_impl_IsCombos (x : List (Int × Int)) : ok_impl_IsCombos x = fnOk df_impl_IsCombos h_impl_IsCombos q_impl_IsCombos x := by unfold ok_impl_IsCombos; exact congrFun (shut _).2 x
noncomputable def D_impl_IsCombos : DSem := DSemOf h_impl_IsCombos q_impl_IsCombos ok_impl_IsCombos v_impl_IsCombos
theorem ck_impl_IsCombos (x : List (Int × Int)) : fnChk df_impl_IsCombos h_impl_IsCombos q_impl_IsCombos x = true := by kernel_rfl
theorem ob_impl_IsCombos : AllD df_impl_IsCombos.body.obs := ⟨sd_math_bits_OnesCount, trivial⟩
theorem st_impl_IsCombos : fnSt df_impl_IsCombos h_impl_IsCombos q_impl_IsCombos = true := by kernel_rfl
theorem sd_impl_IsCombos : SoundD p_impl_IsCombos D_impl_IsCombos := by unfold p_impl_IsCombos; exact soundD_of (f := df_impl_IsCombos) (hs := h_impl_IsCombos) (q := q_impl_IsCombos) ob_impl_IsCombos st_impl_IsCombos ck_impl_IsCombos (fun x h => Eq.mp (ou_impl_IsCombos x) h) (fun x => (vu_impl_IsCombos x).symm)
noncomputable def dc_laws_eqCombo : DCode :=
  (.seq [3, 2] (.region [oa 0 2 (.boxB 0 2 (.t 0)),
 oa 1 3 (.boxB 1 2 (.t 1)),
 oa 2 4 (.mv (.c (.bool false)))])
  (.seq [3, 2] (.seq [9, 3, 2] (.region [oa 0 5 (.fieldA 0 (.t 2)),
 oa 1 6 (.loadB 0 none (.t 5)),
 oa 2 7 (.fieldA 0 (.t 3)),
 oa 3 8 (.loadB 1 none (.t 7)),
 oa 4 9 (.bin .neq (.t 6) (.t 8))])
  (.cond (.t 9) (.seq [4] (.region [oa 0 4 (.mv (.c (.bool false)))])
  .ret) .skip))
  (.seq [] (.seq [14] (.region [oa 0 10 (.fieldA 1 (.t 2)),
 oa 1 11 (.loadB 0 none (.t 10)),
 oa 2 12 (.fieldA 1 (.t 3)),
 oa 3 13 (.loadB 1 none (.t 12)),
 oa 4 14 (.bin .neq (.t 11) (.t 13))])
  (.cond (.t 14) (.seq [4] (.region [oa 0 4 (.mv (.c (.bool false)))])
  .ret) .skip))
  (.seq [4] (.region [oa 0 4 (.mv (.c (.bool true)))])
  .ret))))
noncomputable def df_laws_eqCombo : DFun := ⟨2, 15, 2, true, [.tmp 4], dc_laws_eqCombo⟩
noncomputable def pf_laws_eqCombo : PFun := df_laws_eqCombo.er
noncomputable def f_laws_eqCombo : AFun := pf_laws_eqCombo.er
@[irreducible] noncomputable def s_laws_eqCombo : CallSem := funSem f_laws_eqCombo
@[irreducible] noncomputable def p_laws_eqCombo : PSem := pfunSem pf_laws_eqCombo
theorem sp_laws_eqCombo : SoundP s_laws_eqCombo p_laws_eqCombo := by unfold s_laws_eqCombo p_laws_eqCombo; exact pfun_sound (f := pf_laws_eqCombo) trivial
def h_laws_eqCombo : List HT := [.agg [(.frz, .int .i64), (.frz, .int .i64)], .agg [(.frz, .int .i64), (.frz, .int .i64)]]
def q_laws_eqCombo : QT := .one (.one .own (.bool))
@[irreducible] noncomputable def v_laws_eqCombo (x : (Int × Int) × (Int × Int)) : Bool := (shut fun x => fnV df_laws_eqCombo h_laws_eqCombo q_laws_eqCombo x).1 x
@[irreducible] noncomputable def ok_laws_eqCombo (x : (Int × Int) × (Int × Int)) : Prop := (shut fun x => fnOk df_laws_eqCombo h_laws_eqCombo q_laws_eqCombo x).1 x
theorem vu_laws_eqCombo (x : (Int × Int) × (Int × Int)) : v_laws_eqCombo x = fnV df_laws_eqCombo h_laws_eqCombo q_laws_eqCombo x := by unfold v_laws_eqCombo; exact congrFun (shut _).2 x
theorem ou_laws_eqCombo (x : (Int × Int) × (Int × Int)) : ok_laws_eqCombo x = fnOk df_laws_eqCombo h_laws_eqCombo q_laws_eqCombo x := by unfold ok_laws_eqCombo; exact congrFun (shut _).2 x
noncomputable def D_laws_eqCombo : DSem := DSemOf h_laws_eqCombo q_laws_eqCombo ok_laws_eqCombo v_laws_eqCombo
theorem ck_laws_eqCombo (x : (Int × Int) × (Int × Int)) : fnChk df_laws_eqCombo h_laws_eqCombo q_laws_eqCombo x = true := by kernel_rfl
theorem ob_laws_eqCombo : AllD df_laws_eqCombo.body.obs := trivial
theorem st_laws_eqCombo : fnSt df_laws_eqCombo h_laws_eqCombo q_laws_eqCombo = true := by kernel_rfl
theorem sd_laws_eqCombo : SoundD p_laws_eqCombo D_laws_eqCombo := by unfold p_laws_eqCombo; exact soundD_of (f := df_laws_eqCombo) (hs := h_laws_eqCombo) (q := q_laws_eqCombo) ob_laws_eqCombo st_laws_eqCombo ck_laws_eqCombo (fun x h => Eq.mp (ou_laws_eqCombo x) h) (fun x => (vu_laws_eqCombo x).symm)
noncomputable def dc_laws_eqComboS : DCode :=
  (.seq [1, 0] (.region [oa 0 4 (.mv (.c (.bool false)))])
  (.seq [1, 0] (.seq [10, 1, 0] (.region [on 0 6 0,
 oa 1 7 (.len (.t 6)),
 on 2 8 1,
 oa 3 9 (.len (.t 8)),
 oa 4 10 (.bin .neq (.t 7) (.t 9))])
  (.cond (.t 10) (.seq [4] (.region [oa 0 4 (.mv (.c (.bool false)))])
  .ret) .skip))
  (.seq [] (.seq [5, 1, 0] (.region [oi 0 5 0])
  (.block 0 (.loop [0, 1, 5] 1 (.seq [5, 1, 0] (.seq [14, 5, 1, 0] (.region [om 0 11 5,
 on 1 12 0,
 oa 2 13 (.len (.t 12)),
 oa 3 14 (.bin .lss (.t 11) (.t 13))])
  (.cond (.t 14) .skip (.exit 0)))
  (.seq [5, 1, 0] (.block 1 (.seq [26, 5, 1, 0] (.region [on 0 17 0,
 om 1 18 5,
 xA 2 19 (.indexA 2 (.t 17) (.t 18)) (rg 2),
 xA 3 20 (.loadH (some 2) (.t 19)) (rg 3),
 on 4 21 1,
 om 5 22 5,
 xA 6 23 (.indexA 2 (.t 21) (.t 22)) [4, 5],
 xA 7 24 (.loadH (some 2) (.t 23)) [4, 5, 6],
 xC 8 25 s_laws_eqCombo p_laws_eqCombo D_laws_eqCombo [(.t 20), (.t 24)] (rg 8),
 xA 9 26 (.un .not (.t 25)) (rg 9)])
  (.cond (.t 26) (.seq [4] (.region [oa 0 4 (.mv (.c (.bool false)))])
  .ret) .skip)))
  (.region [om 0 15 5,
 oa 1 16 (.bin .add (.t 15) (.c (.int .i64 1))),
 om 2 5 16]))))))
  (.seq [4] (.region [oa 0 4 (.mv (.c (.bool true)))])
  .ret))))
noncomputable def df_laws_eqComboS : DFun := ⟨2, 27, 0, true, [.tmp 4], dc_laws_eqComboS⟩
noncomputable def pf_laws_eqComboS : PFun := df_laws_eqComboS.er
noncomputable def f_laws_eqComboS : AFun := pf_laws_eqComboS.er
@[irreducible] noncomputable def s_laws_eqComboS : CallSem := funSem f_laws_eqComboS
@[irreducible] noncomputable def p_laws_eqComboS : PSem := pfunSem pf_laws_eqComboS
theorem sp_laws_eqComboS : SoundP s_laws_eqComboS p_laws_eqComboS := by unfold s_laws_eqComboS p_laws_eqComboS; exact pfun_sound (f := pf_laws_eqComboS) ⟨sp_laws_eqCombo, trivial⟩
def h_laws_eqComboS : List HT := [.one .frz (.sl (.cons (.int .i64) (.one (.int .i64)))), .one .frz (.sl (.cons (.int .i64) (.one (.int .i64))))]
def q_laws_eqComboS : QT := .one (.one .own (.bool))
@[irreducible] noncomputable def v_laws_eqComboS (x : (List (Int × Int)) × (List (Int × Int))) : Bool := (shut fun x => fnV df_laws_eqComboS h_laws_eqComboS q_laws_eqComboS x).1 x
@[irreducible] noncomputable def ok_laws_eqComboS (x : (List (Int × Int)) × (List (Int × Int))) : Prop := (shut fun x => fnOk df_laws_eqComboS h_laws_eqComboS q_laws_eqComboS x).1 x
theorem vu_laws_eqComboS (x : (List (Int × Int)) × (List (Int × Int))) : v_laws_eqComboS x = fnV df_laws_eqComboS h_laws_eqComboS q_laws_eqComboS x := by unfold v_laws_eqComboS; exact congrFun (shut _).2 x
theorem ou_laws_eqComboS (x : (List (Int × Int)) × (List (Int × Int))) : ok_laws_eqComboS x = fnOk df_laws_eqComboS h_laws_eqComboS q_laws_eqComboS x := by unfold ok_laws_eqComboS; exact congrFun (shut _).2 x
noncomputable def D_laws_eqComboS : DSem := DSemOf h_laws_eqComboS q_laws_eqComboS ok_laws_eqComboS v_laws_eqComboS
theorem ck_laws_eqComboS (x : (List (Int × Int)) × (List (Int × Int))) : fnChk df_laws_eqComboS h_laws_eqComboS q_laws_eqComboS x = true := by kernel_rfl
theorem ob_laws_eqComboS : AllD df_laws_eqComboS.body.obs := ⟨sd_laws_eqCombo, trivial⟩
theorem st_laws_eqComboS : fnSt df_laws_eqComboS h_laws_eqComboS q_laws_eqComboS = true := by kernel_rfl
theorem sd_laws_eqComboS : SoundD p_laws_eqComboS D_laws_eqComboS := by unfold p_laws_eqComboS; exact soundD_of (f := df_laws_eqComboS) (hs := h_laws_eqComboS) (q := q_laws_eqComboS) ob_laws_eqComboS st_laws_eqComboS ck_laws_eqComboS (fun x h => Eq.mp (ou_laws_eqComboS x) h) (fun x => (vu_laws_eqComboS x).symm)
end
section
set_option maxRecDepth 100000
theorem ve_laws_szComboS (x : (List (Int × Int)) × Int) : v_laws_szComboS x = (bSel (iLt (iSub Go.IntKind.i64 x.2 (lLen x.1)) 0) (-1) (iSub Go.IntKind.i64 x.2 (lLen x.1))) := (vu_laws_szComboS x).trans (by kernel_rfl)
theorem oe_laws_szComboS (x : (List (Int × Int)) × Int) : ok_laws_szComboS x = True := (ou_laws_szComboS x).trans (by kernel_rfl)
theorem ve_laws_toCombo (x : Int × Int) : v_laws_toCombo x = (x.1, x.2) := (vu_laws_toCombo x).trans (by kernel_rfl)
theorem oe_laws_toCombo (x : Int × Int) : ok_laws_toCombo x = True := (ou_laws_toCombo x).trans (by kernel_rfl)
theorem ve_laws_toComboS (x : List (Int × Int)) : v_laws_toComboS x = (loopV (fun (x0 : ((List (Int × Int)) × Int)) => (iLt x0.2 (lLen x))) (fun (x0 : ((List (Int × Int)) × Int)) => ((lSet x0.1 (iNat x0.2) ((v_laws_toCombo ((lGet x (iNat x0.2) (0, 0)).1, (lGet x (iNat x0.2) (0, 0)).2)).1, (v_laws_toCombo ((lGet x (iNat x0.2) (0, 0)).1, (lGet x (iNat x0.2) (0, 0)).2)).2)), (iAdd Go.IntKind.i64 x0.2 1))) ((lRep (lLen x) (0, 0)), 0)).1 := (vu_laws_toComboS x).trans (by kernel_rfl)
theorem oe_laws_toComboS (x : List (Int × Int)) : ok_laws_toComboS x = ((((0 : Int) ≤ (lLen x)) ∧ (roomy ((Int.toNat (lLen x)) * 2))) ∧ (LoopOk (fun (x0 : ((List (Int × Int)) × Int)) => (iLt x0.2 (lLen x))) (fun (x0 : ((List (Int × Int)) × Int)) => ((lSet x0.1 (iNat x0.2) ((v_laws_toCombo ((lGet x (iNat x0.2) (0, 0)).1, (lGet x (iNat x0.2) (0, 0)).2)).1, (v_laws_toCombo ((lGet x (iNat x0.2) (0, 0)).1, (lGet x (iNat x0.2) (0, 0)).2)).2)), (iAdd Go.IntKind.i64 x0.2 1))) (fun (x0 : ((List (Int × Int)) × Int)) => (((iLt x0.2 (lLen x)) = true → ((((0 : Int) ≤ x0.2) ∧ (x0.2 < (((List.length x) : Int)))) ∧ (((iNat x0.2) < (List.length x)) ∧ ((ok_laws_toCombo ((lGet x (iNat x0.2) (0, 0)).1, (lGet x (iNat x0.2) (0, 0)).2)) ∧ ((((0 : Int) ≤ x0.2) ∧ (x0.2 < (((List.length x0.1) : Int)))) ∧ ((iNat x0.2) < (List.length x0.1))))))) ∧ ((iLt x0.2 (lLen x)) = false → True))) ((lRep (lLen x) (0, 0)), 0))) := (ou_laws_toComboS x).trans (by kernel_rfl)
theorem ve_spec_l11Count (x : Int) : v_spec_l11Count x = (loopV (fun (x0 : (Int × Int)) => (iLe x0.2 31)) (fun (x0 : (Int × Int)) => ((iAdd Go.IntKind.i64 x0.1 (iAnd Go.IntKind.i64 (iShr Go.IntKind.i64 x x0.2) 1)), (iAdd Go.IntKind.i64 x0.2 1))) (0, 0)).1 := (vu_spec_l11Count x).trans (by kernel_rfl)
theorem oe_spec_l11Count (x : Int) : ok_spec_l11Count x = (LoopOk (fun (x0 : (Int × Int)) => (iLe x0.2 31)) (fun (x0 : (Int × Int)) => ((iAdd Go.IntKind.i64 x0.1 (iAnd Go.IntKind.i64 (iShr Go.IntKind.i64 x x0.2) 1)), (iAdd Go.IntKind.i64 x0.2 1))) (fun (x0 : (Int × Int)) => (((iLe x0.2 31) = true → ((0 : Int) ≤ x0.2)) ∧ ((iLe x0.2 31) = false → True))) (0, 0)) := (ou_spec_l11Count x).trans (by kernel_rfl)
theorem ve_spec_IsCombos (x : List (Int × Int)) : v_spec_IsCombos x = (bAnd (bNot (iLt (loopV (fun (x0 : Int) => (bAnd (iLt x0 (lLen x)) (bAnd (bNot (bOr (bNot (v_spec_l1In ((lGet x (iNat x0) (0, 0)).1, 0, 16777215))) (bOr (bNot (v_spec_l1In ((v_spec_l11Count (lGet x (iNat x0) (0, 0)).1), 2, 4))) (bNot (v_spec_l1In ((lGet x (iNat x0) (0, 0)).2, 24, 31)))))) (bNot (iLt (loopV (fun (x1 : Int) => (bAnd (iLt x1 x0) (bNot (bOr (iEq (lGet x (iNat x1) (0, 0)).1 (lGet x (iNat x0) (0, 0)).1) (iEq (lGet x (iNat x1) (0, 0)).2 (lGet x (iNat x0) (0, 0)).2))))) (fun (x1 : Int) => (iAdd Go.IntKind.i64 x1 1)) 0) x0))))) (fun (x0 : Int) => (iAdd Go.IntKind.i64 x0 1)) 0) (lLen x))) (iLe (lLen x) 8)) := (vu_spec_IsCombos x).trans (by kernel_rfl)
theorem oe_spec_IsCombos (x : List (Int × Int)) : ok_spec_IsCombos x = (LoopOk (fun (x0 : Int) => (bAnd (iLt x0 (lLen x)) (bAnd (bNot (bOr (bNot (v_spec_l1In ((lGet x (iNat x0) (0, 0)).1, 0, 16777215))) (bOr (bNot (v_spec_l1In ((v_spec_l11Count (lGet x (iNat x0) (0, 0)).1), 2, 4))) (bNot (v_spec_l1In ((lGet x (iNat x0) (0, 0)).2, 24, 31)))))) (bNot (iLt (loopV (fun (x1 : Int) => (bAnd (iLt x1 x0) (bNot (bOr (iEq (lGet x (iNat x1) (0, 0)).1 (lGet x (iNat x0) (0, 0)).1) (iEq (lGet x (iNat x1) (0, 0)).2 (lGet x (iNat x0) (0, 0)).2))))) (fun (x1 : Int) => (iAdd Go.IntKind.i64 x1 1)) 0) x0))))) (fun (x0 : Int) => (iAdd Go.IntKind.i64 x0 1)) (fun (x0 : Int) => (((iLt x0 (lLen x)) = true → (((((0 : Int) ≤ x0) ∧ (x0 < (((List.length x) : Int)))) ∧ (((iNat x0) < (List.length x)) ∧ ((ok_spec_l1In ((lGet x (iNat x0) (0, 0)).1, 0, 16777215)) ∧ (((bNot (v_spec_l1In ((lGet x (iNat x0) (0, 0)).1, 0, 16777215))) = true → True) ∧ ((bNot (v_spec_l1In ((lGet x (iNat x0) (0, 0)).1, 0, 16777215))) = false → ((((0 : Int) ≤ x0) ∧ (x0 < (((List.length x) : Int)))) ∧ (((iNat x0) < (List.length x)) ∧ ((ok_spec_l11Count (lGet x (iNat x0) (0, 0)).1) ∧ ((ok_spec_l1In ((v_spec_l11Count (lGet x (iNat x0) (0, 0)).1), 2, 4)) ∧ (((bNot (v_spec_l1In ((v_spec_l11Count (lGet x (iNat x0) (0, 0)).1), 2, 4))) = true → True) ∧ ((bNot (v_spec_l1In ((v_spec_l11Count (lGet x (iNat x0) (0, 0)).1), 2, 4))) = false → ((((0 : Int) ≤ x0) ∧ (x0 < (((List.length x) : Int)))) ∧ (((iNat x0) < (List.length x)) ∧ (ok_spec_l1In ((lGet x (iNat x0) (0, 0)).2, 24, 31))))))))))))))) ∧ (((bOr (bNot (v_spec_l1In ((lGet x (iNat x0) (0, 0)).1, 0, 16777215))) (bOr (bNot (v_spec_l1In ((v_spec_l11Count (lGet x (iNat x0) (0, 0)).1), 2, 4))) (bNot (v_spec_l1In ((lGet x (iNat x0) (0, 0)).2, 24, 31))))) = true → True) ∧ ((bOr (bNot (v_spec_l1In ((lGet x (iNat x0) (0, 0)).1, 0, 16777215))) (bOr (bNot (v_spec_l1In ((v_spec_l11Count (lGet x (iNat x0) (0, 0)).1), 2, 4))) (bNot (v_spec_l1In ((lGet x (iNat x0) (0, 0)).2, 24, 31))))) = false → (LoopOk (fun (x1 : Int) => (bAnd (iLt x1 x0) (bNot (bOr (iEq (lGet x (iNat x1) (0, 0)).1 (lGet x (iNat x0) (0, 0)).1) (iEq (lGet x (iNat x1) (0, 0)).2 (lGet x (iNat x0) (0, 0)).2))))) (fun (x1 : Int) => (iAdd Go.IntKind.i64 x1 1)) (fun (x1 : Int) => (((iLt x1 x0) = true → ((((0 : Int) ≤ x1) ∧ (x1 < (((List.length x) : Int)))) ∧ (((iNat x1) < (List.length x)) ∧ ((((0 : Int) ≤ x0) ∧ (x0 < (((List.length x) : Int)))) ∧ (((iNat x0) < (List.length x)) ∧ (((iEq (lGet x (iNat x1) (0, 0)).1 (lGet x (iNat x0) (0, 0)).1) = true → True) ∧ ((iEq (lGet x (iNat x1) (0, 0)).1 (lGet x (iNat x0) (0, 0)).1) = false → ((((0 : Int) ≤ x1) ∧ (x1 < (((List.length x) : Int)))) ∧ (((iNat x1) < (List.length x)) ∧ ((((0 : Int) ≤ x0) ∧ (x0 < (((List.length x) : Int)))) ∧ ((iNat x0) < (List.length x)))))))))))) ∧ ((iLt x1 x0) = false → True))) 0))))) ∧ ((iLt x0 (lLen x)) = false → True))) 0) := (ou_spec_IsCombos x).trans (by kernel_rfl)
theorem ve_math_bits_OnesCount64 (x : Int) : v_math_bits_OnesCount64 x = (iAnd Go.IntKind.i64 (iConv Go.IntKind.i64 (iAdd Go.IntKind.u64 (iAdd Go.IntKind.u64 (iAdd Go.IntKind.u64 (iAnd Go.IntKind.u64 (iAdd Go.IntKind.u64 (iShr Go.IntKind.u64 (iAdd Go.IntKind.u64 (iAnd Go.IntKind.u64 (iShr Go.IntKind.u64 (iAdd Go.IntKind.u64 (iAnd Go.IntKind.u64 (iShr Go.IntKind.u64 x 1) 6148914691236517205) (iAnd Go.IntKind.u64 x 6148914691236517205)) 2) 3689348814741910323) (iAnd Go.IntKind.u64 (iAdd Go.IntKind.u64 (iAnd Go.IntKind.u64 (iShr Go.IntKind.u64 x 1) 6148914691236517205) (iAnd Go.IntKind.u64 x 6148914691236517205)) 3689348814741910323)) 4) (iAdd Go.IntKind.u64 (iAnd Go.IntKind.u64 (iShr Go.IntKind.u64 (iAdd Go.IntKind.u64 (iAnd Go.IntKind.u64 (iShr Go.IntKind.u64 x 1) 6148914691236517205) (iAnd Go.IntKind.u64 x 6148914691236517205)) 2) 3689348814741910323) (iAnd Go.IntKind.u64 (iAdd Go.IntKind.u64 (iAnd Go.IntKind.u64 (iShr Go.IntKind.u64 x 1) 6148914691236517205) (iAnd Go.IntKind.u64 x 6148914691236517205)) 3689348814741910323))) 1085102592571150095) (iShr Go.IntKind.u64 (iAnd Go.IntKind.u64 (iAdd Go.IntKind.u64 (iShr Go.IntKind.u64 (iAdd Go.IntKind.u64 (iAnd Go.IntKind.u64 (iShr Go.IntKind.u64 (iAdd Go.IntKind.u64 (iAnd Go.IntKind.u64 (iShr Go.IntKind.u64 x 1) 6148914691236517205) (iAnd Go.IntKind.u64 x 6148914691236517205)) 2) 3689348814741910323) (iAnd Go.IntKind.u64 (iAdd Go.IntKind.u64 (iAnd Go.IntKind.u64 (iShr Go.IntKind.u64 x 1) 6148914691236517205) (iAnd Go.IntKind.u64 x 6148914691236517205)) 3689348814741910323)) 4) (iAdd Go.IntKind.u64 (iAnd Go.IntKind.u64 (iShr Go.IntKind.u64 (iAdd Go.IntKind.u64 (iAnd Go.IntKind.u64 (iShr Go.IntKind.u64 x 1) 6148914691236517205) (iAnd Go.IntKind.u64 x 6148914691236517205)) 2) 3689348814741910323) (iAnd Go.IntKind.u64 (iAdd Go.IntKind.u64 (iAnd Go.IntKind.u64 (iShr Go.IntKind.u64 x 1) 6148914691236517205) (iAnd Go.IntKind.u64 x 6148914691236517205)) 3689348814741910323))) 1085102592571150095) 8)) (iShr Go.IntKind.u64 (iAdd Go.IntKind.u64 (iAnd Go.IntKind.u64 (iAdd Go.IntKind.u64 (iShr Go.IntKind.u64 (iAdd Go.IntKind.u64 (iAnd Go.IntKind.u64 (iShr Go.IntKind.u64 (iAdd Go.IntKind.u64 (iAnd Go.IntKind.u64 (iShr Go.IntKind.u64 x 1) 6148914691236517205) (iAnd Go.IntKind.u64 x 6148914691236517205)) 2) 3689348814741910323) (iAnd Go.IntKind.u64 (iAdd Go.IntKind.u64 (iAnd Go.IntKind.u64 (iShr Go.IntKind.u64 x 1) 6148914691236517205) (iAnd Go.IntKind.u64 x 6148914691236517205)) 3689348814741910323)) 4) (iAdd Go.IntKind.u64 (iAnd Go.IntKind.u64 (iShr Go.IntKind.u64 (iAdd Go.IntKind.u64 (iAnd Go.IntKind.u64 (iShr Go.IntKind.u64 x 1) 6148914691236517205) (iAnd Go.IntKind.u64 x 6148914691236517205)) 2) 3689348814741910323) (iAnd Go.IntKind.u64 (iAdd Go.IntKind.u64 (iAnd Go.IntKind.u64 (iShr Go.IntKind.u64 x 1) 6148914691236517205) (iAnd Go.IntKind.u64 x 6148914691236517205)) 3689348814741910323))) 1085102592571150095) (iShr Go.IntKind.u64 (iAnd Go.IntKind.u64 (iAdd Go.IntKind.u64 (iShr Go.IntKind.u64 (iAdd Go.IntKind.u64 (iAnd Go.IntKind.u64 (iShr Go.IntKind.u64 (iAdd Go.IntKind.u64 (iAnd Go.IntKind.u64 (iShr Go.IntKind.u64 x 1) 6148914691236517205) (iAnd Go.IntKind.u64 x 6148914691236517205)) 2) 3689348814741910323) (iAnd Go.IntKind.u64 (iAdd Go.IntKind.u64 (iAnd Go.IntKind.u64 (iShr Go.IntKind.u64 x 1) 6148914691236517205) (iAnd Go.IntKind.u64 x 6148914691236517205)) 3689348814741910323)) 4) (iAdd Go.IntKind.u64 (iAnd Go.IntKind.u64 (iShr Go.IntKind.u64 (iAdd Go.IntKind.u64 (iAnd Go.IntKind.u64 (iShr Go.IntKind.u64 x 1) 6148914691236517205) (iAnd Go.IntKind.u64 x 6148914691236517205)) 2) 3689348814741910323) (iAnd Go.IntKind.u64 (iAdd Go.IntKind.u64 (iAnd Go.IntKind.u64 (iShr Go.IntKind.u64 x 1) 6148914691236517205) (iAnd Go.IntKind.u64 x 6148914691236517205)) 3689348814741910323))) 1085102592571150095) 8)) 16)) (iShr Go.IntKind.u64 (iAdd Go.IntKind.u64 (iAdd Go.IntKind.u64 (iAnd Go.IntKind.u64 (iAdd Go.IntKind.u64 (iShr Go.IntKind.u64 (iAdd Go.IntKind.u64 (iAnd Go.IntKind.u64 (iShr Go.IntKind.u64 (iAdd Go.IntKind.u64 (iAnd Go.IntKind.u64 (iShr Go.IntKind.u64 x 1) 6148914691236517205) (iAnd Go.IntKind.u64 x 6148914691236517205)) 2) 3689348814741910323) (iAnd Go.IntKind.u64 (iAdd Go.IntKind.u64 (iAnd Go.IntKind.u64 (iShr Go.IntKind.u64 x 1) 6148914691236517205) (iAnd Go.IntKind.u64 x 6148914691236517205)) 3689348814741910323)) 4) (iAdd Go.IntKind.u64 (iAnd Go.IntKind.u64 (iShr Go.IntKind.u64 (iAdd Go.IntKind.u64 (iAnd Go.IntKind.u64 (iShr Go.IntKind.u64 x 1) 6148914691236517205) (iAnd Go.IntKind.u64 x 6148914691236517205)) 2) 3689348814741910323) (iAnd Go.IntKind.u64 (iAdd Go.IntKind.u64 (iAnd Go.IntKind.u64 (iShr Go.IntKind.u64 x 1) 6148914691236517205) (iAnd Go.IntKind.u64 x 6148914691236517205)) 3689348814741910323))) 1085102592571150095) (iShr Go.IntKind.u64 (iAnd Go.IntKind.u64 (iAdd Go.IntKind.u64 (iShr Go.IntKind.u64 (iAdd Go.IntKind.u64 (iAnd Go.IntKind.u64 (iShr Go.IntKind.u64 (iAdd Go.IntKind.u64 (iAnd Go.IntKind.u64 (iShr Go.IntKind.u64 x 1) 6148914691236517205) (iAnd Go.IntKind.u64 x 6148914691236517205)) 2) 3689348814741910323) (iAnd Go.IntKind.u64 (iAdd Go.IntKind.u64 (iAnd Go.IntKind.u64 (iShr Go.IntKind.u64 x 1) 6148914691236517205) (iAnd Go.IntKind.u64 x 6148914691236517205)) 3689348814741910323)) 4) (iAdd Go.IntKind.u64 (iAnd Go.IntKind.u64 (iShr Go.IntKind.u64 (iAdd Go.IntKind.u64 (iAnd Go.IntKind.u64 (iShr Go.IntKind.u64 x 1) 6148914691236517205) (iAnd Go.IntKind.u64 x 6148914691236517205)) 2) 3689348814741910323) (iAnd Go.IntKind.u64 (iAdd Go.IntKind.u64 (iAnd Go.IntKind.u64 (iShr Go.IntKind.u64 x 1) 6148914691236517205) (iAnd Go.IntKind.u64 x 6148914691236517205)) 3689348814741910323))) 1085102592571150095) 8)) (iShr Go.IntKind.u64 (iAdd Go.IntKind.u64 (iAnd Go.IntKind.u64 (iAdd Go.IntKind.u64 (iShr Go.IntKind.u64 (iAdd Go.IntKind.u64 (iAnd Go.IntKind.u64 (iShr Go.IntKind.u64 (iAdd Go.IntKind.u64 (iAnd Go.IntKind.u64 (iShr Go.IntKind.u64 x 1) 6148914691236517205) (iAnd Go.IntKind.u64 x 6148914691236517205)) 2) 3689348814741910323) (iAnd Go.IntKind.u64 (iAdd Go.IntKind.u64 (iAnd Go.IntKind.u64 (iShr Go.IntKind.u64 x 1) 6148914691236517205) (iAnd Go.IntKind.u64 x 6148914691236517205)) 3689348814741910323)) 4) (iAdd Go.IntKind.u64 (iAnd Go.IntKind.u64 (iShr Go.IntKind.u64 (iAdd Go.IntKind.u64 (iAnd Go.IntKind.u64 (iShr Go.IntKind.u64 x 1) 6148914691236517205) (iAnd Go.IntKind.u64 x 6148914691236517205)) 2) 3689348814741910323) (iAnd Go.IntKind.u64 (iAdd Go.IntKind.u64 (iAnd Go.IntKind.u64 (iShr Go.IntKind.u64 x 1) 6148914691236517205) (iAnd Go.IntKind.u64 x 6148914691236517205)) 3689348814741910323))) 1085102592571150095) (iShr Go.IntKind.u64 (iAnd Go.IntKind.u64 (iAdd Go.IntKind.u64 (iShr Go.IntKind.u64 (iAdd Go.IntKind.u64 (iAnd Go.IntKind.u64 (iShr Go.IntKind.u64 (iAdd Go.IntKind.u64 (iAnd Go.IntKind.u64 (iShr Go.IntKind.u64 x 1) 6148914691236517205) (iAnd Go.IntKind.u64 x 6148914691236517205)) 2) 3689348814741910323) (iAnd Go.IntKind.u64 (iAdd Go.IntKind.u64 (iAnd Go.IntKind.u64 (iShr Go.IntKind.u64 x 1) 6148914691236517205) (iAnd Go.IntKind.u64 x 6148914691236517205)) 3689348814741910323)) 4) (iAdd Go.IntKind.u64 (iAnd Go.IntKind.u64 (iShr Go.IntKind.u64 (iAdd Go.IntKind.u64 (iAnd Go.IntKind.u64 (iShr Go.IntKind.u64 x 1) 6148914691236517205) (iAnd Go.IntKind.u64 x 6148914691236517205)) 2) 3689348814741910323) (iAnd Go.IntKind.u64 (iAdd Go.IntKind.u64 (iAnd Go.IntKind.u64 (iShr Go.IntKind.u64 x 1) 6148914691236517205) (iAnd Go.IntKind.u64 x 6148914691236517205)) 3689348814741910323))) 1085102592571150095) 8)) 16)) 32))) 127) := (vu_math_bits_OnesCount64 x).trans (by kernel_rfl)
theorem oe_math_bits_OnesCount64 (x : Int) : ok_math_bits_OnesCount64 x = (((0 : Int) ≤ 1) ∧ (((0 : Int) ≤ 2) ∧ (((0 : Int) ≤ 4) ∧ (((0 : Int) ≤ 8) ∧ (((0 : Int) ≤ 16) ∧ ((0 : Int) ≤ 32)))))) := (ou_math_bits_OnesCount64 x).trans (by kernel_rfl)
theorem ve_math_bits_OnesCount (x : Int) : v_math_bits_OnesCount x = (v_math_bits_OnesCount64 x) := (vu_math_bits_OnesCount x).trans (by kernel_rfl)
theorem oe_math_bits_OnesCount (x : Int) : ok_math_bits_OnesCount x = (ok_math_bits_OnesCount64 x) := (ou_math_bits_OnesCount x).trans (by kernel_rfl)
theorem ve_impl_IsCombos (x : List (Int × Int)) : v_impl_IsCombos x = (bAnd (bNot (iGt (lLen x) 8)) (bNot (iLt (loopV (fun (x0 : Int) => (bAnd (iLt x0 (lLen x)) (bAnd (bNot (bOr (iLt (lGet x (iNat x0) (0, 0)).1 0) (bOr (iGt (lGet x (iNat x0) (0, 0)).1 16777215) (bOr (iLt (lGet x (iNat x0) (0, 0)).2 24) (iGt (lGet x (iNat x0) (0, 0)).2 31))))) (bAnd (bNot (bOr (iLt (v_math_bits_OnesCount (iConv Go.IntKind.u64 (lGet x (iNat x0) (0, 0)).1)) 2) (iGt (v_math_bits_OnesCount (iConv Go.IntKind.u64 (lGet x (iNat x0) (0, 0)).1)) 4))) (bNot (iLt (loopV (fun (x1 : Int) => (bAnd (iLt x1 (lLen (lSub x 0 (iNat x0)))) (bNot (bOr (iEq (lGet (lSub x 0 (iNat x0)) (iNat x1) (0, 0)).1 (lGet x (iNat x0) (0, 0)).1) (iEq (lGet (lSub x 0 (iNat x0)) (iNat x1) (0, 0)).2 (lGet x (iNat x0) (0, 0)).2))))) (fun (x1 : Int) => (iAdd Go.IntKind.i64 x1 1)) 0) (lLen (lSub x 0 (iNat x0))))))))) (fun (x0 : Int) => (iAdd Go.IntKind.i64 x0 1)) 0) (lLen x)))) := (vu_impl_IsCombos x).trans (by kernel_rfl)
theorem oe_impl_IsCombos (x : List (Int × Int)) : ok_impl_IsCombos x = (((iGt (lLen x) 8) = true → True) ∧ ((iGt (lLen x) 8) = false → (LoopOk (fun (x0 : Int) => (bAnd (iLt x0 (lLen x)) (bAnd (bNot (bOr (iLt (lGet x (iNat x0) (0, 0)).1 0) (bOr (iGt (lGet x (iNat x0) (0, 0)).1 16777215) (bOr (iLt (lGet x (iNat x0) (0, 0)).2 24) (iGt (lGet x (iNat x0) (0, 0)).2 31))))) (bAnd (bNot (bOr (iLt (v_math_bits_OnesCount (iConv Go.IntKind.u64 (lGet x (iNat x0) (0, 0)).1)) 2) (iGt (v_math_bits_OnesCount (iConv Go.IntKind.u64 (lGet x (iNat x0) (0, 0)).1)) 4))) (bNot (iLt (loopV (fun (x1 : Int) => (bAnd (iLt x1 (lLen (lSub x 0 (iNat x0)))) (bNot (bOr (iEq (lGet (lSub x 0 (iNat x0)) (iNat x1) (0, 0)).1 (lGet x (iNat x0) (0, 0)).1) (iEq (lGet (lSub x 0 (iNat x0)) (iNat x1) (0, 0)).2 (lGet x (iNat x0) (0, 0)).2))))) (fun (x1 : Int) => (iAdd Go.IntKind.i64 x1 1)) 0) (lLen (lSub x 0 (iNat x0))))))))) (fun (x0 : Int) => (iAdd Go.IntKind.i64 x0 1)) (fun (x0 : Int) => (((iLt x0 (lLen x)) = true → ((((0 : Int) ≤ x0) ∧ (x0 < (((List.length x) : Int)))) ∧ (((iNat x0) < (List.length x)) ∧ (((bOr (iLt (lGet x (iNat x0) (0, 0)).1 0) (bOr (iGt (lGet x (iNat x0) (0, 0)).1 16777215) (bOr (iLt (lGet x (iNat x0) (0, 0)).2 24) (iGt (lGet x (iNat x0) (0, 0)).2 31)))) = true → True) ∧ ((bOr (iLt (lGet x (iNat x0) (0, 0)).1 0) (bOr (iGt (lGet x (iNat x0) (0, 0)).1 16777215) (bOr (iLt (lGet x (iNat x0) (0, 0)).2 24) (iGt (lGet x (iNat x0) (0, 0)).2 31)))) = false → ((ok_math_bits_OnesCount (iConv Go.IntKind.u64 (lGet x (iNat x0) (0, 0)).1)) ∧ (((bOr (iLt (v_math_bits_OnesCount (iConv Go.IntKind.u64 (lGet x (iNat x0) (0, 0)).1)) 2) (iGt (v_math_bits_OnesCount (iConv Go.IntKind.u64 (lGet x (iNat x0) (0, 0)).1)) 4)) = true → True) ∧ ((bOr (iLt (v_math_bits_OnesCount (iConv Go.IntKind.u64 (lGet x (iNat x0) (0, 0)).1)) 2) (iGt (v_math_bits_OnesCount (iConv Go.IntKind.u64 (lGet x (iNat x0) (0, 0)).1)) 4)) = false → ((((0 : Int) ≤ x0) ∧ ((0 ≤ (iNat x0)) ∧ (((iNat x0) ≤ (List.length x)) ∧ (0 < (List.length x))))) ∧ (LoopOk (fun (x1 : Int) => (bAnd (iLt x1 (lLen (lSub x 0 (iNat x0)))) (bNot (bOr (iEq (lGet (lSub x 0 (iNat x0)) (iNat x1) (0, 0)).1 (lGet x (iNat x0) (0, 0)).1) (iEq (lGet (lSub x 0 (iNat x0)) (iNat x1) (0, 0)).2 (lGet x (iNat x0) (0, 0)).2))))) (fun (x1 : Int) => (iAdd Go.IntKind.i64 x1 1)) (fun (x1 : Int) => (((iLt x1 (lLen (lSub x 0 (iNat x0)))) = true → ((((0 : Int) ≤ x1) ∧ (x1 < (((List.length (lSub x 0 (iNat x0))) : Int)))) ∧ ((iNat x1) < (List.length (lSub x 0 (iNat x0)))))) ∧ ((iLt x1 (lLen (lSub x 0 (iNat x0)))) = false → True))) 0)))))))))) ∧ ((iLt x0 (lLen x)) = false → True))) 0))) := (ou_impl_IsCombos x).trans (by kernel_rfl)
theorem ve_laws_eqCombo (x : (Int × Int) × (Int × Int)) : v_laws_eqCombo x = (bAnd (bNot (iNe x.1.1 x.2.1)) (bNot (iNe x.1.2 x.2.2))) := (vu_laws_eqCombo x).trans (by kernel_rfl)
theorem oe_laws_eqCombo (x : (Int × Int) × (Int × Int)) : ok_laws_eqCombo x = True := (ou_laws_eqCombo x).trans (by kernel_rfl)
theorem ve_laws_eqComboS (x : (List (Int × Int)) × (List (Int × Int))) : v_laws_eqComboS x = (bAnd (bNot (iNe (lLen x.1) (lLen x.2))) (bNot (iLt (loopV (fun (x0 : Int) => (bAnd (iLt x0 (lLen x.1)) (bNot (bNot (v_laws_eqCombo (((lGet x.1 (iNat x0) (0, 0)).1, (lGet x.1 (iNat x0) (0, 0)).2), (lGet x.2 (iNat x0) (0, 0)).1, (lGet x.2 (iNat x0) (0, 0)).2)))))) (fun (x0 : Int) => (iAdd Go.IntKind.i64 x0 1)) 0) (lLen x.1)))) := (vu_laws_eqComboS x).trans (by kernel_rfl)
theorem oe_laws_eqComboS (x : (List (Int × Int)) × (List (Int × Int))) : ok_laws_eqComboS x = (((iNe (lLen x.1) (lLen x.2)) = true → True) ∧ ((iNe (lLen x.1) (lLen x.2)) = false → (LoopOk (fun (x0 : Int) => (bAnd (iLt x0 (lLen x.1)) (bNot (bNot (v_laws_eqCombo (((lGet x.1 (iNat x0) (0, 0)).1, (lGet x.1 (iNat x0) (0, 0)).2), (lGet x.2 (iNat x0) (0, 0)).1, (lGet x.2 (iNat x0) (0, 0)).2)))))) (fun (x0 : Int) => (iAdd Go.IntKind.i64 x0 1)) (fun (x0 : Int) => (((iLt x0 (lLen x.1)) = true → ((((0 : Int) ≤ x0) ∧ (x0 < (((List.length x.1) : Int)))) ∧ (((iNat x0) < (List.length x.1)) ∧ ((((0 : Int) ≤ x0) ∧ (x0 < (((List.length x.2) : Int)))) ∧ (((iNat x0) < (List.length x.2)) ∧ (ok_laws_eqCombo (((lGet x.1 (iNat x0) (0, 0)).1, (lGet x.1 (iNat x0) (0, 0)).2), (lGet x.2 (iNat x0) (0, 0)).1, (lGet x.2 (iNat x0) (0, 0)).2))))))) ∧ ((iLt x0 (lLen x.1)) = false → True))) 0))) := (ou_laws_eqComboS x).trans (by kernel_rfl)
end
def sm_Combo (_ : Int × Int) : Prop := True
def wl_Combo (_ : Int × Int) : Prop := True
def sm_ComboS (x : List (Int × Int)) : Prop := x.length ≤ 1048576 ∧ ∀ a ∈ x, sm_Combo a
def wl_ComboS (x : List (Int × Int)) : Prop := x.length ≤ 9223372036854775807 ∧ ∀ a ∈ x, wl_Combo a
theorem sz_ComboS (x : List (Int × Int)) (hw : wl_ComboS x) (l : Int) (h0 : 0 ≤ l) (h1 : l ≤ 1048576) : ok_laws_szComboS (x, l) ∧ (v_laws_szComboS (x, l) < 0 ∨ (0 ≤ v_laws_szComboS (x, l) ∧ v_laws_szComboS (x, l) ≤ l ∧ sm_ComboS x)) := by
  rw [oe_laws_szComboS, ve_laws_szComboS]
  have hl : x.length ≤ 9223372036854775807 := hw.1
  have hs : iSub .i64 l (lLen x) = l - x.length := by rw [lLen_eq]; exact iSub_i64 (by unfold In64; omega)
  refine ⟨trivial, ?_⟩
  simp only [hs, iLt_eq, bSel_eq, decide_eq_true_eq]
  split
  · left; omega
  · right; exact ⟨by omega, by omega, ⟨by omega, fun a _ => by simp [sm_Combo]⟩⟩
theorem to_Combo (x : Int × Int) (h : sm_Combo x) : ok_laws_toCombo x ∧ v_laws_toCombo x = x := by
  rw [oe_laws_toCombo, ve_laws_toCombo]
  exact ⟨trivial, rfl⟩
theorem to_ComboS (x : List (Int × Int)) (h : sm_ComboS x) : ok_laws_toComboS x ∧ v_laws_toComboS x = x := by
  rw [oe_laws_toComboS, ve_laws_toComboS]
  obtain ⟨h1, h2⟩ := h
  have hY : ∀ i : Nat, i < x.length → ok_laws_toCombo ((x.getD i (0, 0)).1, (x.getD i (0, 0)).2) ∧ v_laws_toCombo ((x.getD i (0, 0)).1, (x.getD i (0, 0)).2) = x.getD i (0, 0) := fun i hi => to_Combo _ (h2 _ (getD_mem x i (0, 0) hi))
  refine ⟨⟨⟨by rw [lLen_eq]; omega, roomy_of (by rw [lLen_eq]; omega) (by rw [lLen_eq]; omega) (by omega)⟩, copyg_ok x (0, 0) (0, 0) h1 (fun _ => rfl) (fun l i hi => by simp only [lSet_eq, lGet_eq, iNat_eq, Int.toNat_natCast]; rw [(hY i hi).2]) (fun l i hl hi => ?_)⟩, copyg_v x (0, 0) (0, 0) h1 (fun _ => rfl) (fun l i hi => by simp only [lSet_eq, lGet_eq, iNat_eq, Int.toNat_natCast]; rw [(hY i hi).2])⟩
  simp only [iLt_eq, lLen_eq, iNat_eq, lGet_eq, decide_eq_true_eq, Int.toNat_natCast]
  exact ⟨fun hh => ⟨by omega, by omega, (hY i (by omega)).1, by omega, by omega⟩, fun _ => trivial⟩
theorem eq_Combo (a b : Int × Int) (h : sm_Combo a) : ok_laws_eqCombo (a, b) ∧ (v_laws_eqCombo (a, b) = true ↔ a = b) := by
  obtain ⟨a0, a1⟩ := a
  obtain ⟨b0, b1⟩ := b
  rw [oe_laws_eqCombo, ve_laws_eqCombo]
  refine ⟨by simp, ?_⟩
  simp only [bNot_eq, bAnd_eq, bIff_eq, iNe_eq, Bool.and_eq_true, Bool.not_not, decide_eq_true_eq, Prod.mk.injEq, beq_iff_eq]
  try (constructor <;> intro h <;> simp_all)
theorem eq_ComboS (a b : List (Int × Int)) (h : sm_ComboS a) : ok_laws_eqComboS (a, b) ∧ (v_laws_eqComboS (a, b) = true ↔ a = b) := by
  rw [oe_laws_eqComboS, ve_laws_eqComboS]
  obtain ⟨h1, h2⟩ := h
  have hY : ∀ i : Nat, i < a.length → ok_laws_eqCombo (((lGet a i (0, 0)).1, (lGet a i (0, 0)).2), ((lGet b i (0, 0)).1, (lGet b i (0, 0)).2)) ∧ (v_laws_eqCombo (((lGet a i (0, 0)).1, (lGet a i (0, 0)).2), ((lGet b i (0, 0)).1, (lGet b i (0, 0)).2)) = true ↔ a.getD i (0, 0) = b.getD i (0, 0)) := fun i hi => by
    have := eq_Combo (a.getD i (0, 0)) (b.getD i (0, 0)) (h2 _ (getD_mem a i (0, 0) hi))
    rw [lGet_eq, lGet_eq]; exact this
  by_cases hl : a.length = b.length
  · refine ⟨⟨fun _ => trivial, fun _ => eq_ok a b (0, 0) (fun i => bNot (v_laws_eqCombo (((lGet a i (0, 0)).1, (lGet a i (0, 0)).2), ((lGet b i (0, 0)).1, (lGet b i (0, 0)).2)))) hl (fun i hi => by simp only [bNot_eq, Bool.not_eq_false', (hY i hi).2]) (by omega) (fun i hi => by simp only [bAnd_eq, iLt_eq, lLen_eq, iNat_eq, bNot_eq, Int.toNat_natCast, Int.ofNat_lt]) (fun i hi => rfl) (fun i hi => ?_)⟩, ?_⟩
    · simp only [iLt_eq, lLen_eq, iNat_eq, decide_eq_true_eq, Int.toNat_natCast]
      exact ⟨fun hh => ⟨by omega, by omega, by omega, by omega, (hY i (by omega)).1⟩, fun _ => trivial⟩
    · have hv := eq_v (c := fun i : Int => bAnd (iLt i (lLen a)) (bNot ((fun i => bNot (v_laws_eqCombo (((lGet a i (0, 0)).1, (lGet a i (0, 0)).2), ((lGet b i (0, 0)).1, (lGet b i (0, 0)).2)))) i.toNat))) (f := fun i => iAdd .i64 i 1) a b (0, 0) (fun i => bNot (v_laws_eqCombo (((lGet a i (0, 0)).1, (lGet a i (0, 0)).2), ((lGet b i (0, 0)).1, (lGet b i (0, 0)).2)))) hl (fun i hi => by simp only [bNot_eq, Bool.not_eq_false', (hY i hi).2]) (by omega) (fun i hi => by simp only [bAnd_eq, iLt_eq, lLen_eq, bNot_eq, Int.toNat_natCast, Int.ofNat_lt]) (fun i hi => rfl)
      have e1 : bNot (iNe (lLen a) (lLen b)) = true := by rw [bNot_eq, iNe_eq, lLen_eq, lLen_eq, hl]; simp
      rw [e1, bAnd_eq true, Bool.true_and, bNot_eq (iLt _ (lLen a)), iLt_eq _ (lLen a)]
      simp only [← iNat_eq, lLen_eq] at hv ⊢
      simp only [Bool.not_eq_true', decide_eq_false_iff_not]
      rw [hv]; simp
  · have e1 : bNot (iNe (lLen a) (lLen b)) = false := by rw [bNot_eq, iNe_eq, lLen_eq, lLen_eq]; simp; omega
    refine ⟨⟨fun _ => trivial, fun h => ?_⟩, ?_⟩
    · rw [bNot_eq] at e1; rw [h] at e1; cases e1
    · rw [e1, bAnd_eq, Bool.false_and]; constructor
      · intro h; cases h
      · intro e; subst e; exact absurd rfl hl
theorem u64_wrap {n : Int} (h0 : 0 ≤ n) (h1 : n < 18446744073709551616) : IntKind.u64.wrap n = n := by
  simp only [IntKind.wrap, IntKind.bits, IntKind.signed, Bool.false_and, Bool.false_eq_true, if_false]
  omega
theorem nAnd {a b : Nat} (ha : a < 18446744073709551616) (hb : b < 18446744073709551616) : iAnd .u64 (a : Int) (b : Int) = ((a &&& b : Nat) : Int) := by
  have e : (BitVec.ofInt 64 (a : Int) &&& BitVec.ofInt 64 (b : Int)).toNat = a &&& b := by
    rw [BitVec.ofInt_natCast, BitVec.ofInt_natCast, BitVec.toNat_and, BitVec.toNat_ofNat, BitVec.toNat_ofNat, Nat.mod_eq_of_lt ha, Nat.mod_eq_of_lt hb]
  have h : a &&& b ≤ a := Nat.and_le_left
  rw [iAnd_u]
  show IntKind.u64.wrap ((BitVec.ofInt 64 (a : Int) &&& BitVec.ofInt 64 (b : Int)).toNat : Int) = _
  rw [e]
  exact u64_wrap (by omega) (by omega)
theorem nAdd {a b : Nat} (h : a + b < 18446744073709551616) : iAdd .u64 (a : Int) (b : Int) = ((a + b : Nat) : Int) := by
  rw [iAdd_u]; rw [u64_wrap (by omega) (by omega)]; omega
theorem nShr (a k : Nat) (h : k ≤ 64) : iShr .u64 (a : Int) (k : Int) = ((a / 2 ^ k : Nat) : Int) := by
  rw [iShr_u]
  show Int.fdiv (a : Int) (2 ^ min (k : Int).toNat 64) = _
  rw [Int.toNat_natCast, Nat.min_eq_left h, Int.fdiv_eq_ediv_of_nonneg _ (by exact_mod_cast Nat.zero_le _)]
  norm_cast
theorem and_step (w m : Nat) : w &&& m = (w % 256 &&& m % 256) + 256 * (w / 256 &&& m / 256) := by
  have h1 : (w &&& m) / 256 = w / 256 &&& m / 256 := Nat.and_div_two_pow (n := 8)
  have h2 : (w &&& m) % 256 = w % 256 &&& m % 256 := Nat.and_mod_two_pow (n := 8)
  have := Nat.div_add_mod (w &&& m) 256
  omega
theorem and3 (a b c s m : Nat) (ha : a < 256) (hb : b < 256) (hc : c < 256) (h0 : m % 256 = s) (h1 : m / 256 % 256 = s) (h2 : m / 256 / 256 % 256 = s) :
    (a + 256 * b + 65536 * c) &&& m = (a &&& s) + 256 * (b &&& s) + 65536 * (c &&& s) := by
  rw [and_step, show (a + 256 * b + 65536 * c) % 256 = a by omega, show (a + 256 * b + 65536 * c) / 256 = b + 256 * c by omega, and_step (b + 256 * c), h0,
    show (b + 256 * c) % 256 = b by omega, show (b + 256 * c) / 256 = c by omega, and_step c, h1, h2, show c % 256 = c by omega, show c / 256 = 0 by omega, Nat.zero_and]
  omega
def g1 (a : Nat) : Nat := (a / 2 &&& 85) + (a &&& 85)
def g2 (a : Nat) : Nat := (a / 4 &&& 51) + (a &&& 51)
def g3 (a : Nat) : Nat := (a / 16 + a) % 16
def pc (a : Nat) : Nat := a % 2 + a / 2 % 2 + a / 4 % 2 + a / 8 % 2 + a / 16 % 2 + a / 32 % 2 + a / 64 % 2 + a / 128 % 2
set_option maxRecDepth 20000 in
theorem b_d1 : ∀ a : Fin 256, ∀ e : Fin 2, (a.val / 2 + 128 * e.val) &&& 85 = a.val / 2 &&& 85 := by decide +kernel
set_option maxRecDepth 20000 in
theorem b_d2 : ∀ a : Fin 256, ∀ e : Fin 4, (a.val / 4 + 64 * e.val) &&& 51 = a.val / 4 &&& 51 := by decide +kernel
set_option maxRecDepth 20000 in
theorem b_pc : ∀ a : Fin 256, g1 a.val < 256 ∧ g2 (g1 a.val) < 256 ∧ g2 (g1 a.val) / 16 ≤ 4 ∧ g2 (g1 a.val) % 16 ≤ 4 ∧ g3 (g2 (g1 a.val)) = pc a.val := by decide +kernel
noncomputable def o1 (x : Int) : Int := iAdd .u64 (iAnd .u64 (iShr .u64 x 1) 6148914691236517205) (iAnd .u64 x 6148914691236517205)
noncomputable def o2 (x : Int) : Int := iAdd .u64 (iAnd .u64 (iShr .u64 x 2) 3689348814741910323) (iAnd .u64 x 3689348814741910323)
noncomputable def o3 (x : Int) : Int := iAnd .u64 (iAdd .u64 (iShr .u64 x 4) x) 1085102592571150095
noncomputable def o4 (k x : Int) : Int := iAdd .u64 x (iShr .u64 x k)
theorem ones_eq (x : Int) : v_math_bits_OnesCount64 x = iAnd .i64 (iConv .i64 (o4 32 (o4 16 (o4 8 (o3 (o2 (o1 x))))))) 127 := by
  rw [ve_math_bits_OnesCount64]; rfl
def w3 (a b c : Nat) : Int := ((a + 256 * b + 65536 * c : Nat) : Int)
theorem o1_eq {a b c : Nat} (ha : a < 256) (hb : b < 256) (hc : c < 256) : o1 (w3 a b c) = w3 (g1 a) (g1 b) (g1 c) := by
  unfold o1 w3
  have d := fun (a e : Nat) (h : a < 256) (h' : e < 2) => b_d1 ⟨a, h⟩ ⟨e, h'⟩
  simp only at d
  have k0 := (b_pc ⟨a, ha⟩).1
  have k1 := (b_pc ⟨b, hb⟩).1
  have k2 := (b_pc ⟨c, hc⟩).1
  simp only [g1] at k0 k1 k2
  rw [show (1 : Int) = ((1 : Nat) : Int) from rfl, show (6148914691236517205 : Int) = ((6148914691236517205 : Nat) : Int) from rfl, nShr _ 1 (by omega),
    nAnd (by omega) (by omega), nAnd (by omega) (by omega), and3 a b c 85 _ ha hb hc (by decide) (by decide) (by decide),
    show (a + 256 * b + 65536 * c) / 2 ^ 1 = (a / 2 + 128 * (b % 2)) + 256 * (b / 2 + 128 * (c % 2)) + 65536 * (c / 2) by omega,
    and3 _ _ _ 85 _ (by omega) (by omega) (by omega) (by decide) (by decide) (by decide), d a _ ha (by omega), d b _ hb (by omega), nAdd (by omega)]
  simp only [g1]
  congr 1
  omega
theorem o2_eq {a b c : Nat} (ha : a < 256) (hb : b < 256) (hc : c < 256) (ka : g2 a < 256) (kb : g2 b < 256) (kc : g2 c < 256) : o2 (w3 a b c) = w3 (g2 a) (g2 b) (g2 c) := by
  unfold o2 w3
  have d := fun (a e : Nat) (h : a < 256) (h' : e < 4) => b_d2 ⟨a, h⟩ ⟨e, h'⟩
  simp only at d
  simp only [g2] at ka kb kc
  rw [show (2 : Int) = ((2 : Nat) : Int) from rfl, show (3689348814741910323 : Int) = ((3689348814741910323 : Nat) : Int) from rfl, nShr _ 2 (by omega),
    nAnd (by omega) (by omega), nAnd (by omega) (by omega), and3 a b c 51 _ ha hb hc (by decide) (by decide) (by decide),
    show (a + 256 * b + 65536 * c) / 2 ^ 2 = (a / 4 + 64 * (b % 4)) + 256 * (b / 4 + 64 * (c % 4)) + 65536 * (c / 4) by omega,
    and3 _ _ _ 51 _ (by omega) (by omega) (by omega) (by decide) (by decide) (by decide), d a _ ha (by omega), d b _ hb (by omega), nAdd (by omega)]
  simp only [g2]
  congr 1
  omega
theorem and15 (n : Nat) : n &&& 15 = n % 16 := Nat.and_two_pow_sub_one_eq_mod n 4
theorem o3_eq {a b c : Nat} (ha : a / 16 ≤ 4 ∧ a % 16 ≤ 4) (hb : b / 16 ≤ 4 ∧ b % 16 ≤ 4) (hc : c / 16 ≤ 4 ∧ c % 16 ≤ 4) : o3 (w3 a b c) = w3 (g3 a) (g3 b) (g3 c) := by
  unfold o3 w3
  rw [show (4 : Int) = ((4 : Nat) : Int) from rfl, show (1085102592571150095 : Int) = ((1085102592571150095 : Nat) : Int) from rfl, nShr _ 4 (by omega), nAdd (by omega),
    nAnd (by omega) (by omega),
    show (a + 256 * b + 65536 * c) / 2 ^ 4 + (a + 256 * b + 65536 * c) = (a / 16 + 16 * (b % 16) + a) + 256 * (b / 16 + 16 * (c % 16) + b) + 65536 * (c / 16 + c) by omega,
    and3 _ _ _ 15 _ (by omega) (by omega) (by omega) (by decide) (by decide) (by decide), and15, and15, and15]
  simp only [g3]
  congr 1
  omega
theorem iAnd_127 {n : Nat} (h : n < 9223372036854775808) : iAnd .i64 (n : Int) 127 = ((n % 128 : Nat) : Int) := by
  have e : (BitVec.ofInt 64 (n : Int) &&& BitVec.ofInt 64 127).toNat = n % 128 := by
    rw [BitVec.ofInt_natCast, BitVec.toNat_and, BitVec.toNat_ofNat, Nat.mod_eq_of_lt (by omega)]
    exact Nat.and_two_pow_sub_one_eq_mod n 7
  rw [iAnd_u]
  show IntKind.i64.wrap ((BitVec.ofInt 64 (n : Int) &&& BitVec.ofInt 64 127).toNat : Int) = _
  rw [e]
  exact wrap_i64 (by unfold In64; omega)
theorem o4_eq {A B C : Nat} (hA : A ≤ 15) (hB : B ≤ 15) (hC : C ≤ 15) : iAnd .i64 (iConv .i64 (o4 32 (o4 16 (o4 8 (w3 A B C))))) 127 = ((A + B + C : Nat) : Int) := by
  unfold o4 w3
  have e1 : A + 256 * B + 65536 * C + (A + 256 * B + 65536 * C) / 2 ^ 8 = A + B + 256 * (B + C) + 65536 * C := by omega
  have e2 : A + B + 256 * (B + C) + 65536 * C + (A + B + 256 * (B + C) + 65536 * C) / 2 ^ 16 = A + B + C + 256 * (B + C) + 65536 * C := by omega
  have e3 : A + B + C + 256 * (B + C) + 65536 * C + (A + B + C + 256 * (B + C) + 65536 * C) / 2 ^ 32 = A + B + C + 256 * (B + C) + 65536 * C := by omega
  rw [show (8 : Int) = ((8 : Nat) : Int) from rfl, nShr _ 8 (by omega), nAdd (by omega), e1, show (16 : Int) = ((16 : Nat) : Int) from rfl, nShr _ 16 (by omega), nAdd (by omega), e2,
    show (32 : Int) = ((32 : Nat) : Int) from rfl, nShr _ 32 (by omega), nAdd (by omega), e3, iConv_i64 (by unfold In64; omega), iAnd_127 (by omega)]
  congr 1
  omega
theorem ones_w3 {a b c : Nat} (ha : a < 256) (hb : b < 256) (hc : c < 256) : v_math_bits_OnesCount64 (w3 a b c) = ((pc a + pc b + pc c : Nat) : Int) := by
  obtain ⟨a1, a2, a3, a4, a5⟩ := b_pc ⟨a, ha⟩
  obtain ⟨b1, b2, b3, b4, b5⟩ := b_pc ⟨b, hb⟩
  obtain ⟨c1, c2, c3, c4, c5⟩ := b_pc ⟨c, hc⟩
  simp only at a1 a2 a3 a4 a5 b1 b2 b3 b4 b5 c1 c2 c3 c4 c5
  rw [ones_eq, o1_eq ha hb hc, o2_eq a1 b1 c1 a2 b2 c2, o3_eq ⟨a3, a4⟩ ⟨b3, b4⟩ ⟨c3, c4⟩, o4_eq (by unfold g3; omega) (by unfold g3; omega) (by unfold g3; omega), a5, b5, c5]
theorem nShr64 (a k : Nat) (h : k ≤ 64) : iShr .i64 (a : Int) (k : Int) = ((a / 2 ^ k : Nat) : Int) := by
  rw [iShr_u]
  show Int.fdiv (a : Int) (2 ^ min (k : Int).toNat 64) = _
  rw [Int.toNat_natCast, Nat.min_eq_left h, Int.fdiv_eq_ediv_of_nonneg _ (by exact_mod_cast Nat.zero_le _)]
  norm_cast
theorem iAnd_one {n : Nat} (h : n < 9223372036854775808) : iAnd .i64 (n : Int) 1 = ((n % 2 : Nat) : Int) := by
  have e : (BitVec.ofInt 64 (n : Int) &&& BitVec.ofInt 64 1).toNat = n % 2 := by
    rw [BitVec.ofInt_natCast, BitVec.toNat_and, BitVec.toNat_ofNat, Nat.mod_eq_of_lt (by omega)]
    exact Nat.and_two_pow_sub_one_eq_mod n 1
  rw [iAnd_u]
  show IntKind.i64.wrap ((BitVec.ofInt 64 (n : Int) &&& BitVec.ofInt 64 1).toNat : Int) = _
  rw [e]
  exact wrap_i64 (by unfold In64; omega)
def bits (n : Nat) : Nat → Nat
  | 0 => 0
  | k + 1 => bits n k + n / 2 ^ k % 2
theorem bits_le (n : Nat) : ∀ k, bits n k ≤ k
  | 0 => Nat.le_refl _
  | k + 1 => by unfold bits; have := bits_le n k; omega
theorem count_eq {n : Nat} (h : n < 16777216) : v_spec_l11Count (n : Int) = ((bits n 32 : Nat) : Int) := by
  rw [ve_spec_l11Count]
  have := (loop_for (c := fun x0 : Int × Int => iLe x0.2 31) (f := fun x0 : Int × Int => (iAdd Go.IntKind.i64 x0.1 (iAnd Go.IntKind.i64 (iShr Go.IntKind.i64 (n : Int) x0.2) 1), iAdd Go.IntKind.i64 x0.2 1)) (p := fun _ => True)
    32 (fun k => (((bits n k : Nat) : Int), (k : Int))) (x0 := (0, 0)) rfl (fun k hk => ⟨trivial, by rw [iLe_eq]; exact decide_eq_true (by show (k : Int) ≤ 31; omega), ?_⟩) ⟨trivial, by rw [iLe_eq]; rfl⟩).2
  · rw [this]
  · have hle := bits_le n k
    have hd : n / 2 ^ k ≤ n := Nat.div_le_self ..
    show (iAdd Go.IntKind.i64 ((bits n k : Nat) : Int) (iAnd Go.IntKind.i64 (iShr Go.IntKind.i64 (n : Int) (k : Int)) 1), iAdd Go.IntKind.i64 (k : Int) 1) = _
    rw [nShr64 n k (by omega), iAnd_one (by omega), iAdd_i64 (by unfold In64; omega), iAdd_i64 (by unfold In64; omega)]
    simp only [bits]
    congr 1
theorem bits_zero : ∀ k, bits 0 k = 0
  | 0 => rfl
  | k + 1 => by unfold bits; rw [bits_zero k, Nat.zero_div]
theorem bits_byte {a : Nat} (w : Nat) (ha : a < 256) : ∀ k, bits (a + 256 * w) (k + 8) = pc a + bits w k
  | 0 => by
    have e0 : (a + 256 * w) / 1 % 2 = a % 2 := by omega
    have e1 : (a + 256 * w) / 2 % 2 = a / 2 % 2 := by omega
    have e2 : (a + 256 * w) / 4 % 2 = a / 4 % 2 := by omega
    have e3 : (a + 256 * w) / 8 % 2 = a / 8 % 2 := by omega
    have e4 : (a + 256 * w) / 16 % 2 = a / 16 % 2 := by omega
    have e5 : (a + 256 * w) / 32 % 2 = a / 32 % 2 := by omega
    have e6 : (a + 256 * w) / 64 % 2 = a / 64 % 2 := by omega
    have e7 : (a + 256 * w) / 128 % 2 = a / 128 % 2 := by omega
    show 0 + (a + 256 * w) / 1 % 2 + (a + 256 * w) / 2 % 2 + (a + 256 * w) / 4 % 2 + (a + 256 * w) / 8 % 2 + (a + 256 * w) / 16 % 2 + (a + 256 * w) / 32 % 2 + (a + 256 * w) / 64 % 2 + (a + 256 * w) / 128 % 2 = pc a + 0
    rw [e0, e1, e2, e3, e4, e5, e6, e7]
    unfold pc; omega
  | k + 1 => by
    have e : (a + 256 * w) / 2 ^ (k + 8) = w / 2 ^ k := by
      rw [Nat.add_comm k 8, Nat.pow_add, ← Nat.div_div_eq_div_mul, show (a + 256 * w) / 2 ^ 8 = w by omega]
    show bits (a + 256 * w) (k + 8) + (a + 256 * w) / 2 ^ (k + 8) % 2 = pc a + (bits w k + w / 2 ^ k % 2)
    rw [bits_byte w ha k, e]; omega
theorem bits_pc {a b c : Nat} (ha : a < 256) (hb : b < 256) (hc : c < 256) : bits (a + 256 * b + 65536 * c) 32 = pc a + pc b + pc c := by
  rw [show a + 256 * b + 65536 * c = a + 256 * (b + 256 * (c + 256 * 0)) by omega, bits_byte _ ha 24, bits_byte _ hb 16, bits_byte _ hc 8, bits_zero]
  omega
theorem ones_count {x : Int} (h0 : 0 ≤ x) (h1 : x ≤ 16777215) : v_math_bits_OnesCount (iConv .u64 x) = v_spec_l11Count x := by
  obtain ⟨n, rfl⟩ : ∃ n : Nat, x = (n : Int) := ⟨x.toNat, by omega⟩
  have e : (n : Int) = w3 (n % 256) (n / 256 % 256) (n / 65536) := by unfold w3; congr 1; omega
  have en : n = n % 256 + 256 * (n / 256 % 256) + 65536 * (n / 65536) := by omega
  rw [ve_math_bits_OnesCount, show iConv .u64 (n : Int) = (n : Int) by rw [iConv_u]; exact u64_wrap h0 (by omega), count_eq (by omega)]
  rw [e, ones_w3 (by omega) (by omega) (by omega)]
  congr 1
  rw [← bits_pc (by omega) (by omega) (by omega), ← en]
theorem loop_cong {X : Type} {c d : X → Bool} {f g : X → X} (I : X → Prop) (m : X → Nat) (h : ∀ x, I x → c x = d x ∧ (c x = true → f x = g x ∧ I (f x) ∧ m (f x) < m x)) {x0 : X} (h0 : I x0) : loopV c f x0 = loopV d g x0 := by
  have go : ∀ (n : Nat) (x : X), m x < n → I x → ∃ y, LoopTo c f (fun _ => True) x y ∧ LoopTo d g (fun _ => True) x y := by
    intro n
    induction n with
    | zero => intro x hm; exact absurd hm (Nat.not_lt_zero _)
    | succ n ih =>
      intro x hm hI
      obtain ⟨a, b⟩ := h x hI
      cases hc : c x with
      | false => exact ⟨x, .stop trivial hc, .stop trivial (by rw [← a, hc])⟩
      | true =>
        obtain ⟨e, i, k⟩ := b hc
        obtain ⟨y, d1, d2⟩ := ih (f x) (by omega) i
        exact ⟨y, .go trivial hc d1, .go trivial (by rw [← a, hc]) (by rw [← e]; exact d2)⟩
  obtain ⟨y, d1, d2⟩ := go _ x0 (Nat.lt_succ_self _) h0
  rw [d1.val, d2.val]
theorem bAnd_ff (t : Bool) : bAnd false t = false := by rw [bAnd_eq, Bool.false_and]
theorem cnt_cong {c d : Int → Bool} {f g : Int → Int} (n : Int) (h0 : 0 ≤ n) (hn : n ≤ 9223372036854775806) (h : ∀ st : Int, 0 ≤ st → st ≤ n → c st = d st ∧ (c st = true → st < n)) (hf : ∀ st, f st = iAdd .i64 st 1) (hg : ∀ st, g st = iAdd .i64 st 1) : loopV c f 0 = loopV d g 0 :=
  loop_cong (fun st => 0 ≤ st ∧ st ≤ n) (fun st => (n - st).toNat) (fun st hI => ⟨(h st hI.1 hI.2).1, fun hc => by
    have := (h st hI.1 hI.2).2 hc
    rw [hf, hg, iAdd_i64 (by unfold In64; omega)]
    exact ⟨rfl, by omega, by omega⟩⟩) ⟨by omega, h0⟩
theorem rest_eq {K O OC CN Ls Li i n : Int} (hL : Ls = Li) (hn : n = i) (hc : 0 ≤ K → K ≤ 16777215 → OC = CN) :
    bAnd (bNot (bOr (bNot (v_spec_l1In (K, 0, 16777215))) (bOr (bNot (v_spec_l1In (CN, 2, 4))) (bNot (v_spec_l1In (O, 24, 31)))))) (bNot (iLt Ls i)) =
    bAnd (bNot (bOr (iLt K 0) (bOr (iGt K 16777215) (bOr (iLt O 24) (iGt O 31))))) (bAnd (bNot (bOr (iLt OC 2) (iGt OC 4))) (bNot (iLt Li n))) := by
  subst hL hn
  have hd : ∀ a b : Int, decide (a < b) = !decide (b ≤ a) := fun a b => by simp only [← decide_not, Int.not_le]
  simp only [ve_spec_l1In, bAnd_eq, bNot_eq, bOr_eq, iGe_eq, iLe_eq, iLt_eq, iGt_eq, hd]
  by_cases k0 : 0 ≤ K
  · by_cases k1 : K ≤ 16777215
    · rw [hc k0 k1]
      simp only [k0, k1, decide_true]
      generalize decide (2 ≤ CN) = a
      generalize decide (CN ≤ 4) = b
      generalize decide (24 ≤ O) = c
      generalize decide (O ≤ 31) = d
      generalize decide (n ≤ Ls) = e
      cases a <;> cases b <;> cases c <;> cases d <;> cases e <;> rfl
    · simp [k1]
  · simp [k0]
theorem isCombos_eq (x : List (Int × Int)) (h : x.length ≤ 1048576) : v_spec_IsCombos x = v_impl_IsCombos x := by
  rw [ve_spec_IsCombos, ve_impl_IsCombos]
  have fin : ∀ {A B n : Int}, A = B → bAnd (bNot (iLt A n)) (iLe n 8) = bAnd (bNot (iGt n 8)) (bNot (iLt B n)) := fun {A B n} e => by
    subst e
    simp only [bAnd_eq, bNot_eq, iLe_eq, iGt_eq, ← decide_not, Int.not_lt, Bool.and_comm]
  refine fin (cnt_cong x.length (by omega) (by omega) (fun i h0 h1 => ?_) (fun _ => rfl) (fun _ => rfl))
  by_cases hlt : i < x.length
  · refine ⟨?_, fun _ => hlt⟩
    congr 1
    have hs : lSub x 0 (iNat i) = x.take i.toNat := by rw [lSub_eq, List.drop_zero, Nat.sub_zero, iNat_eq]
    have hl : (lLen (lSub x 0 (iNat i)) : Int) = i := by rw [hs, lLen_eq, List.length_take]; omega
    refine rest_eq (cnt_cong i h0 (by omega) (fun k k0 k1 => ⟨?_, fun hc => ?_⟩) (fun _ => rfl) (fun _ => rfl)) hl (fun a b => ones_count a b)
    · rw [hl]
      by_cases hk : k < i
      · have e : lGet (lSub x 0 (iNat i)) (iNat k) (0, 0) = lGet x (iNat k) (0, 0) := by
          rw [hs, lGet_eq, lGet_eq, iNat_eq, List.getD_eq_getElem?_getD, List.getD_eq_getElem?_getD, List.getElem?_take, if_pos (by omega)]
        rw [e]
      · have e : iLt k i = false := by rw [iLt_eq]; exact decide_eq_false hk
        rw [e, bAnd_ff, bAnd_ff]
    · rw [bAnd_eq, iLt_eq, Bool.and_eq_true, decide_eq_true_eq] at hc; exact hc.1
  · have e : iLt i (lLen x) = false := by rw [iLt_eq, lLen_eq]; exact decide_eq_false hlt
    refine ⟨by rw [e, bAnd_ff, bAnd_ff], fun hc => ?_⟩
    rw [e, bAnd_ff] at hc; cases hc
theorem ok_count (n : Int) : ok_spec_l11Count n := by
  rw [oe_spec_l11Count]
  refine cnt_ok (fun st => st.2) 32 (by omega) (fun st _ _ h => ?_) (fun _ => rfl) (fun st h0 _ => ⟨fun _ => h0, fun _ => trivial⟩) (by simp) (by simp)
  rw [iLe_eq, decide_eq_true_eq] at h
  omega
theorem ok_ones (n : Int) : ok_math_bits_OnesCount n := by
  rw [oe_math_bits_OnesCount, oe_math_bits_OnesCount64]; decide
theorem ok_isCombos (x : List (Int × Int)) (h : x.length ≤ 1048576) : ok_spec_IsCombos x ∧ ok_impl_IsCombos x := by
  rw [oe_spec_IsCombos, oe_impl_IsCombos]
  have cc : ∀ {st n : Int} {t : Bool}, bAnd (iLt st n) t = true → st < n := fun {st n t} h => by
    rw [bAnd_eq, iLt_eq, Bool.and_eq_true, decide_eq_true_eq] at h; exact h.1
  have pp : ∀ st : Int, 0 ≤ st → st < x.length → (((0 : Int) ≤ st ∧ st < (x.length : Int)) ∧ iNat st < x.length) := fun st h0 h1 => by
    rw [iNat_eq]; omega
  constructor
  · refine cnt_ok (fun st => st) x.length (by omega) (fun st _ _ h => by have := cc h; rwa [lLen_eq] at this) (fun _ => rfl) (fun i h0 h1 => ⟨fun hlt => ?_, fun _ => trivial⟩) (by simp) (by simp)
    rw [iLt_eq, lLen_eq, decide_eq_true_eq] at hlt
    obtain ⟨p1, p2⟩ := pp i h0 hlt
    simp only [oe_spec_l1In, ok_count]
    refine ⟨⟨p1, p2, trivial, fun _ => trivial, fun _ => ⟨p1, p2, trivial, trivial, fun _ => trivial, fun _ => ⟨p1, p2, trivial⟩⟩⟩, fun _ => trivial, fun _ => ?_⟩
    refine cnt_ok (fun st => st) i (by omega) (fun st _ _ h => cc h) (fun _ => rfl) (fun k k0 k1 => ⟨fun hk => ?_, fun _ => trivial⟩) (by simp) h0
    rw [iLt_eq, decide_eq_true_eq] at hk
    obtain ⟨q1, q2⟩ := pp k k0 (by omega)
    exact ⟨q1, q2, p1, p2, fun _ => trivial, fun _ => ⟨q1, q2, p1, p2⟩⟩
  · refine ⟨fun _ => trivial, fun _ => ?_⟩
    refine cnt_ok (fun st => st) x.length (by omega) (fun st _ _ h => by have := cc h; rwa [lLen_eq] at this) (fun _ => rfl) (fun i h0 h1 => ⟨fun hlt => ?_, fun _ => trivial⟩) (by simp) (by simp)
    rw [iLt_eq, lLen_eq, decide_eq_true_eq] at hlt
    obtain ⟨p1, p2⟩ := pp i h0 hlt
    have hs : (lSub x 0 (iNat i)).length = i.toNat := by rw [lSub_eq, List.drop_zero, Nat.sub_zero, iNat_eq, List.length_take]; omega
    refine ⟨p1, p2, fun _ => trivial, fun _ => ⟨ok_ones _, fun _ => trivial, fun _ => ⟨⟨h0, Nat.zero_le _, by omega, by omega⟩, ?_⟩⟩⟩
    refine cnt_ok (fun st => st) i (by omega) (fun st _ _ h => by have := cc h; rw [lLen_eq, hs] at this; omega) (fun _ => rfl) (fun k k0 k1 => ⟨fun hk => ?_, fun _ => trivial⟩) (by simp) h0
    rw [iLt_eq, lLen_eq, hs, decide_eq_true_eq] at hk
    rw [hs]
    exact ⟨⟨k0, hk⟩, by rw [iNat_eq]; omega⟩
end Go.Ag
