/-
  THE THIRD LEVEL IS SOUND: marks. A cell without a mark is the one that was there.
-/
import Derived.Test.YtmjjamfkgingcaaLibD
namespace Go.Ag
set_option linter.unusedSimpArgs false
set_option linter.unusedVariables false

/-- Each cell of the second row is marked, or is the first row's own. -/
def Chg : List DC → List DC → Prop
  | _, [] => True
  | [], c :: r => c.d = true ∧ Chg [] r
  | b :: a, c :: r => (c.d = true ∨ c = b) ∧ Chg a r
def ChgB : List (List DC) → List (List DC) → Prop
  | _, [] => True
  | [], c :: r => Chg [] c ∧ ChgB [] r
  | b :: a, c :: r => Chg b c ∧ ChgB a r
structure ChgS (x y : DS) : Prop where
  sl : Chg x.sl y.sl
  bx : ChgB x.bx y.bx
  hp : ChgB x.hp y.hp

theorem Chg.refl : ∀ (x : List DC), Chg x x
  | [] => trivial
  | _ :: r => ⟨.inr rfl, Chg.refl r⟩
theorem Chg.trans : ∀ {x y z : List DC}, Chg x y → Chg y z → Chg x z
  | _, _, [], _, _ => by cases ‹List DC› <;> trivial
  | [], [], _ :: _, _, h => h
  | _ :: a, [], c :: r, _, h => ⟨.inl h.1, Chg.trans (x := a) (y := []) (by cases a <;> trivial) h.2⟩
  | [], b :: a, c :: r, h, h' => by
    refine ⟨?_, Chg.trans h.2 h'.2⟩
    rcases h'.1 with h1 | h1
    · exact h1
    · rw [h1]; exact h.1
  | e :: x, b :: a, c :: r, h, h' => by
    refine ⟨?_, Chg.trans h.2 h'.2⟩
    rcases h'.1 with h1 | h1
    · exact .inl h1
    · rw [h1]; exact h.1
theorem ChgB.refl : ∀ (x : List (List DC)), ChgB x x
  | [] => trivial
  | b :: r => ⟨Chg.refl b, ChgB.refl r⟩
theorem ChgB.trans : ∀ {x y z : List (List DC)}, ChgB x y → ChgB y z → ChgB x z
  | _, _, [], _, _ => by cases ‹List (List DC)› <;> trivial
  | [], [], _ :: _, _, h => h
  | b :: a, [], c :: r, _, h => ⟨Chg.trans (y := []) (by trivial) h.1, ChgB.trans (x := a) (y := []) (by cases a <;> trivial) h.2⟩
  | [], b :: a, c :: r, h, h' => ⟨h.1.trans h'.1, ChgB.trans h.2 h'.2⟩
  | e :: x, b :: a, c :: r, h, h' => ⟨h.1.trans h'.1, ChgB.trans h.2 h'.2⟩
theorem ChgS.refl (x : DS) : ChgS x x := ⟨Chg.refl _, ChgB.refl _, ChgB.refl _⟩
theorem ChgS.trans {x y z : DS} (h : ChgS x y) (h' : ChgS y z) : ChgS x z := ⟨h.sl.trans h'.sl, h.bx.trans h'.bx, h.hp.trans h'.hp⟩

theorem Chg.put : ∀ (x : List DC) (n : Nat) (v : DV), Chg x (dput x n v)
  | [], _, _ => trivial
  | _ :: r, 0, _ => ⟨.inl rfl, Chg.refl r⟩
  | _ :: r, n + 1, v => ⟨.inr rfl, Chg.put r n v⟩
theorem Chg.clr (hd : Hd) : ∀ (x : List DC), Chg x (dclr hd x)
  | [] => trivial
  | c :: r => by
    refine ⟨?_, Chg.clr hd r⟩
    split
    · exact .inl rfl
    · exact .inr rfl
theorem Chg.clearBox (i : Nat) : ∀ (x : List DC), Chg x (dclearBox i x)
  | [] => trivial
  | c :: r => by
    refine ⟨?_, Chg.clearBox i r⟩
    split
    · exact .inl rfl
    · exact .inr rfl
theorem Chg.keep (live : List Nat) : ∀ (n : Nat) (x : List DC), Chg x (dkeep' live n x)
  | _, [] => trivial
  | n, c :: r => by
    refine ⟨?_, Chg.keep live (n + 1) r⟩
    split
    · split
      · exact .inl rfl
      · exact .inr rfl
    · exact .inl rfl
theorem Chg.trim (live : List Nat) : ∀ (n : Nat) (x : List DC), Chg x (dtrim live n x)
  | _, [] => trivial
  | n, c :: r => by
    refine ⟨?_, Chg.trim live (n + 1) r⟩
    split
    · exact .inr rfl
    · exact .inl rfl
theorem Chg.splice : ∀ (x : List DC) (n : Nat) (vs : List DV), Chg x (dsplice x n vs)
  | [], n, [] => trivial
  | _ :: _, 0, [] => Chg.refl _
  | _ :: _, _ + 1, [] => Chg.refl _
  | [], _, _ :: _ => trivial
  | _ :: r, 0, v :: vs => ⟨.inl rfl, Chg.splice r 0 vs⟩
  | _ :: r, n + 1, v :: vs => ⟨.inr rfl, Chg.splice r n (v :: vs)⟩
theorem Chg.news : ∀ (x : List DC) (vs : List DV), Chg x (Go.Ag.news vs)
  | x, [] => by cases x <;> trivial
  | [], v :: vs => ⟨rfl, Chg.news [] vs⟩
  | _ :: a, v :: vs => ⟨.inl rfl, Chg.news a vs⟩
theorem ChgB.put : ∀ (x : List (List DC)) (i : Nat) {v : List DC}, Chg (dgetB x i) v → ChgB x (dputB x i v)
  | [], _, _, _ => trivial
  | _ :: r, 0, _, h => ⟨h, ChgB.refl r⟩
  | _ :: r, n + 1, v, h => ⟨Chg.refl _, ChgB.put r n h⟩
theorem ChgB.app : ∀ (x : List (List DC)) (vs : List DV), ChgB x (x ++ [Go.Ag.news vs])
  | [], vs => ⟨Chg.news [] vs, trivial⟩
  | b :: r, vs => ⟨Chg.refl b, ChgB.app r vs⟩
/-- Marks are put back. -/
theorem Chg.rem : ∀ {x y : List DC}, Chg (Go.Ag.clean x) y → Chg x (remC x y)
  | x, [], _ => by cases x <;> trivial
  | [], _ :: _, h => h
  | b :: a, c :: r, h => by
    refine ⟨?_, Chg.rem h.2⟩
    rcases h.1 with h1 | h1
    · left; simp [h1]
    · subst h1
      cases hb : b.d with
      | true => left; rfl
      | false => right; obtain ⟨d, v⟩ := b; simp only at hb; subst hb; rfl
theorem ChgB.rem : ∀ {x y : List (List DC)}, ChgB (cleanB x) y → ChgB x (remB x y)
  | x, [], _ => by cases x <;> trivial
  | [], _ :: _, h => h
  | b :: a, c :: r, h => ⟨h.1.rem, ChgB.rem h.2⟩
theorem ChgS.rem {x y : DS} (h : ChgS x.clean y) : ChgS x (remS x y) := ⟨h.sl.rem, h.bx.rem, h.hp.rem⟩

theorem ChgS.put (d : DS) (n : Option Nat) (v : DV) : ChgS d (d.put n v) := by
  cases n with
  | none => exact ChgS.refl d
  | some n =>
    simp only [DS.put]
    split
    · exact ⟨(Chg.put _ _ _).trans (Chg.clr _ _), ChgB.refl _, ChgB.refl _⟩
    · exact ⟨Chg.put _ _ _, ChgB.refl _, ChgB.refl _⟩
theorem ChgS.mvOut (x : Opnd) (d : DS) : ChgS d (dmvOut x d).2 := by
  cases x with
  | c v => exact ChgS.refl d
  | t n =>
    simp only [dmvOut, dmvS]
    split
    · split
      · exact ChgS.refl d
      · exact ⟨(Chg.put _ _ _).trans (Chg.clr _ _), ChgB.refl _, ChgB.refl _⟩
    · exact ChgS.refl d
theorem ChgS.fzOut (x : Opnd) (d : DS) : ChgS d (dfzOut x d).2 := by
  cases x with
  | c v => exact ChgS.refl d
  | t n =>
    simp only [dfzOut, dfzS]
    split
    · split
      · exact ⟨(Chg.put _ _ _).trans (Chg.clr _ _), ChgB.refl _, ChgB.refl _⟩
      · exact ChgS.refl d
    · exact ChgS.refl d
theorem ChgS.setK (d : DS) (v : DV) : ∀ (hd : Hd) (p : List Nat), ChgS d (dsetK d v hd p)
  | .s t, p => ⟨(Chg.put _ _ _).trans (Chg.clr _ _), ChgB.refl _, ChgB.refl _⟩
  | .b i, [c] => ⟨Chg.clr _ _, ChgB.put _ _ (Chg.put _ _ _), ChgB.refl _⟩
  | .h i, [c] => ⟨Chg.clr _ _, ChgB.refl _, ChgB.put _ _ (Chg.put _ _ _)⟩
  | .b i, [] => ChgS.refl d
  | .b i, _ :: _ :: _ => ChgS.refl d
  | .h i, [] => ChgS.refl d
  | .h i, _ :: _ :: _ => ChgS.refl d
  | .x i, _ => ChgS.refl d
theorem dfill_chg : ∀ (ps : List (Nat × Nat × Opnd)) {cs cs' : List DV} {d d' : DS}, dfill cs ps d = some (cs', d') → ChgS d d'
  | [], cs, cs', d, d', h => by
    simp only [dfill, Option.some.injEq, Prod.mk.injEq] at h
    obtain ⟨_, rfl⟩ := h
    exact ChgS.refl d
  | (off, size, x) :: r, cs, cs', d, d', h => by
    unfold dfill at h
    split at h
    · exact (ChgS.mvOut x d).trans (dfill_chg r h)
    · cases h
theorem dsrc_chg {w : Nat} {y : Opnd} {d d' : DS} {new : DSrc} (h : dsrc w y d = some (new, d')) : ChgS d d' := by
  unfold dsrc at h
  split at h <;> (try split at h) <;> first | (cases h; done) | (simp only [Option.some.injEq, Prod.mk.injEq] at h; obtain ⟨_, rfl⟩ := h; first | exact ChgS.refl _ | exact ChgS.mvOut y d)
theorem dapp_chg {w : Nat} {x : Opnd} {new : DSrc} {d d' : DS} {g : PX} {v : DV} (h : dapp w x new d = some (g, v, d')) : ChgS d d' := by
  unfold dapp at h
  split at h
  · cases h
  · repeat' split at h
    all_goals first | (cases h; done) | (simp only [Option.some.injEq, Prod.mk.injEq] at h; obtain ⟨_, _, rfl⟩ := h; first | exact ChgS.mvOut x d | exact ChgS.setK _ _ _ _)
theorem dloadB_chg {m : Bool} {i : Nat} {n : Option Nat} {a : DV} {d d' : DS} {g : PX} {v : DV} (h : dloadB m i n a d = some (g, v, d')) : ChgS d d' := by
  unfold dloadB at h
  split at h
  · cases m with
    | true =>
      simp only [if_true] at h
      split at h
      · simp only [Option.map_eq_some_iff, Prod.mk.injEq] at h
        obtain ⟨_, _, _, _, rfl⟩ := h
        exact ⟨Chg.clr _ _, ChgB.put _ _ (Chg.splice _ _ _), ChgB.refl _⟩
      · cases h
    | false =>
      simp only [Bool.false_eq_true, if_false] at h
      split at h
      · simp only [Option.map_eq_some_iff, Prod.mk.injEq] at h
        obtain ⟨_, _, _, _, rfl⟩ := h
        exact ChgS.refl _
      · cases h
  · cases h
theorem dloadH_chg {m : Bool} {n : Option Nat} {a : DV} {d d' : DS} {g : PX} {v : DV} (h : dloadH m n a d = some (g, v, d')) : ChgS d d' := by
  unfold dloadH at h
  split at h
  · cases m with
    | true =>
      simp only [if_true] at h
      split at h
      · simp only [Option.map_eq_some_iff, Prod.mk.injEq] at h
        obtain ⟨_, _, _, _, rfl⟩ := h
        exact ⟨Chg.clr _ _, ChgB.refl _, ChgB.put _ _ (Chg.splice _ _ _)⟩
      · cases h
    | false =>
      simp only [Bool.false_eq_true, if_false] at h
      split at h
      · simp only [Option.map_eq_some_iff, Prod.mk.injEq] at h
        obtain ⟨_, _, _, _, rfl⟩ := h
        exact ChgS.refl _
      · cases h
  · split at h
    · split at h
      · simp only [Option.map_eq_some_iff, Prod.mk.injEq] at h
        obtain ⟨_, _, _, _, rfl⟩ := h
        exact ChgS.refl _
      · cases h
    · cases h
  · cases h
theorem dstoreB_chg {i n : Nat} {a x : Opnd} {d d' : DS} {g : PX} {v : DV} (h : dstoreB i n a x d = some (g, v, d')) : ChgS d d' := by
  unfold dstoreB at h
  simp only at h
  split at h
  · split at h
    · simp only [Option.some.injEq, Prod.mk.injEq] at h
      obtain ⟨_, _, rfl⟩ := h
      refine (ChgS.mvOut x d).trans ⟨?_, ChgB.put _ _ (Chg.splice _ _ _), ChgB.refl _⟩
      split
      · exact Chg.clr _ _
      · exact Chg.refl _
    · cases h
  · cases h
theorem dstoreH_chg {n : Nat} {a x : Opnd} {d d' : DS} {g : PX} {v : DV} (h : dstoreH n a x d = some (g, v, d')) : ChgS d d' := by
  unfold dstoreH at h
  simp only at h
  split at h
  · split at h
    · simp only [Option.some.injEq, Prod.mk.injEq] at h
      obtain ⟨_, _, rfl⟩ := h
      refine (ChgS.mvOut x d).trans ⟨?_, ChgB.refl _, ChgB.put _ _ (Chg.splice _ _ _)⟩
      dsimp only
      split
      · exact Chg.clr _ _
      · exact Chg.refl _
    · cases h
  · split at h
    · split at h
      · split at h
        · simp only [Option.some.injEq, Prod.mk.injEq] at h
          obtain ⟨_, _, rfl⟩ := h
          exact (ChgS.mvOut x d).trans (ChgS.setK _ _ _ _)
        · cases h
      · cases h
    · cases h
  · cases h
theorem bw_chg (x : Opnd) (d : DS) : (dbwOut x d).2 = d := by cases x <;> rfl
theorem dappN_chg {w : Nat} {new : DSrc} {d d' : DS} {g : PX} {v : DV} (h : dappN w new d = some (g, v, d')) : d' = d := by
  unfold dappN at h
  split at h <;> (simp only [Option.some.injEq, Prod.mk.injEq] at h; exact h.2.2.symm)
theorem dappW_chg {w : Nat} {x : Opnd} {new : DSrc} {d d' : DS} {g : PX} {v : DV} (h : dappW w x new d = some (g, v, d')) : ChgS d d' := by
  unfold dappW at h
  split at h
  · cases h
  · repeat' split at h
    all_goals first | (cases h; done) | (have := dappN_chg h; subst this; exact ChgS.mvOut x d) | (simp only [Option.some.injEq, Prod.mk.injEq] at h; obtain ⟨_, _, rfl⟩ := h; first | exact ChgS.mvOut x d | exact ChgS.setK _ _ _ _)
theorem dstep_chg {m : Bool} {o : AOp} {ty : Option RT} {d d' : DS} {g : PX} {v : DV} (h : dstep m o ty d = some (g, v, d')) : ChgS d d' := by
  have pure : (dpure o (fun x => x.dev d.sl)).map (fun r => (r.1, r.2, d)) = some (g, v, d') → ChgS d d' := fun h => by
    simp only [Option.map_eq_some_iff, Prod.mk.injEq] at h
    obtain ⟨_, _, _, _, rfl⟩ := h
    exact ChgS.refl _
  cases o <;> first | exact pure h | skip
  case mv x =>
    cases m with
    | true =>
      simp only [dstep, if_true] at h
      split at h
      · simp only [Option.some.injEq, Prod.mk.injEq] at h
        obtain ⟨_, _, rfl⟩ := h
        rw [bw_chg]; exact ChgS.refl d
      · cases h
    | false =>
      simp only [dstep, Bool.false_eq_true, if_false] at h
      split at h
      · simp only [Option.some.injEq, Prod.mk.injEq] at h
        obtain ⟨_, _, rfl⟩ := h
        exact ChgS.mvOut x d
      · cases h
  case loadB i n a => exact dloadB_chg h
  case loadH n a => exact dloadH_chg h
  case storeB i n a x => exact dstoreB_chg h
  case storeH n a x => exact dstoreH_chg h
  case app w x y =>
    simp only [dstep] at h
    split at h
    · rename_i h1
      exact (dsrc_chg h1).trans (dapp_chg h)
    · cases h
  case allocB i zs =>
    simp only [dstep] at h
    split at h
    · simp only [Option.some.injEq, Prod.mk.injEq] at h
      obtain ⟨_, _, rfl⟩ := h
      exact ⟨(Chg.clearBox _ _).trans (Chg.clr _ _), ChgB.put _ _ (Chg.news _ _), ChgB.refl _⟩
    · cases h
  case boxB i n x =>
    simp only [dstep] at h
    split at h
    · simp only [Option.some.injEq, Prod.mk.injEq] at h
      obtain ⟨_, _, rfl⟩ := h
      exact (ChgS.mvOut x d).trans ⟨(Chg.clearBox _ _).trans (Chg.clr _ _), ChgB.put _ _ (Chg.news _ _), ChgB.refl _⟩
    · cases h
  case allocH zs =>
    simp only [dstep] at h
    split at h
    · simp only [Option.some.injEq, Prod.mk.injEq] at h
      obtain ⟨_, _, rfl⟩ := h
      exact ⟨Chg.clr _ _, ChgB.refl _, ChgB.app _ _⟩
    · cases h
  case boxH n x =>
    simp only [dstep] at h
    split at h
    · simp only [Option.some.injEq, Prod.mk.injEq] at h
      obtain ⟨_, _, rfl⟩ := h
      exact (ChgS.mvOut x d).trans ⟨Chg.clr _ _, ChgB.refl _, ChgB.app _ _⟩
    · cases h
  case build zs ps =>
    simp only [dstep] at h
    split at h
    · split at h
      · rename_i hf
        simp only [Option.some.injEq, Prod.mk.injEq] at h
        obtain ⟨_, _, rfl⟩ := h
        exact dfill_chg ps hf
      · cases h
    · cases h
  case mkSlice w z len =>
    simp only [dstep] at h
    repeat' split at h
    all_goals first | (cases h; done) | (simp only [Option.some.injEq, Prod.mk.injEq] at h; obtain ⟨_, _, rfl⟩ := h; exact ChgS.refl _)
  case litSlice w n zs ps =>
    simp only [dstep] at h
    split at h
    · simp only [Option.some.injEq, Prod.mk.injEq] at h
      obtain ⟨_, _, rfl⟩ := h
      exact ChgS.refl _
    · split at h
      · split at h
        · rename_i hf
          have := dfill_chg ps hf
          repeat' split at h
          all_goals first | (cases h; done) | (simp only [Option.some.injEq, Prod.mk.injEq] at h; obtain ⟨_, _, rfl⟩ := h; exact this)
        · cases h
      · cases h
  case extract x i =>
    simp only [dstep] at h
    repeat' split at h
    all_goals first | (cases h; done) | (simp only [Option.some.injEq, Prod.mk.injEq] at h; obtain ⟨_, _, rfl⟩ := h; first | exact ChgS.refl _ | exact ⟨(Chg.put _ _ _).trans (Chg.clr _ _), ChgB.refl _, ChgB.refl _⟩)
theorem dstepW_chg {ws : List (Nat × Nat)} {m : Bool} {o : AOp} {ty : Option RT} {d d' : DS} {g : PX} {v : DV} (h : dstepW ws m o ty d = some (g, v, d')) : ChgS d d' := by
  have gen : (match dstep m o ty d with | some (g, v, st) => (match dwk ws v with | some v => some (g, v, st) | none => none) | none => none) = some (g, v, d') → ChgS d d' := by
    intro h
    cases h1 : dstep m o ty d with
    | none => rw [h1] at h; cases h
    | some r =>
      obtain ⟨g1, v1, d1⟩ := r
      rw [h1] at h
      simp only at h
      cases h2 : dwk ws v1 with
      | none => rw [h2] at h; cases h
      | some v2 =>
        rw [h2] at h
        simp only [Option.some.injEq, Prod.mk.injEq] at h
        obtain ⟨_, _, rfl⟩ := h
        exact dstep_chg h1
  cases o <;> first | exact gen h | skip
  case app w x y =>
    simp only [dstepW] at h
    split at h
    · split at h
      · split at h
        · rename_i h1
          exact (dsrc_chg h1).trans (dappW_chg h)
        · cases h
      · cases h
    · cases h
end Go.Ag

namespace Go.Ag
set_option linter.unusedSimpArgs false
set_option linter.unusedVariables false

theorem bSel_t {α : Type} (x y : α) : bSel true x y = x := by unfold bSel; rfl
theorem bSel_f {α : Type} (x y : α) : bSel false x y = y := by unfold bSel; rfl
theorem mrgB_s (c : Bool) (x y : BX) : (mrgB c x y).b = bif c then x.b else y.b := by
  cases x <;> cases y <;> rename_i x y <;> cases c <;> cases x <;> cases y <;> simp [mrgB, BX.b, bNot, bOr, bAnd, bSel]
theorem qeq_eq {q q' : Ql} (h : qeq q q' = true) : q = q' := of_decide_eq_true h
mutual
theorem mrgV_s (c : Bool) : ∀ (x y : DV), mrgV c x y = .any ∨ (mrgV c x y).enc = (bif c then x.enc else y.enc)
  | .undef, y => by
    cases y <;> first | exact .inl rfl | skip
    case undef => cases c <;> exact .inr rfl
  | .bool a, y => by
    cases y <;> first | exact .inl rfl | skip
    case bool b => right; simp only [mrgV, DV.enc, mrgB_s]; cases c <;> rfl
  | .int k a, y => by
    cases y <;> first | exact .inl rfl | skip
    case int k' b =>
      simp only [mrgV]
      split
      · rename_i hk; have := same_eq hk; subst this
        right; cases c <;> simp only [DV.enc, bSel_t, bSel_f, cond_true, cond_false]
      · exact .inl rfl
  | .str a, y => by
    cases y <;> first | exact .inl rfl | skip
    case str b => right; cases c <;> simp only [mrgV, DV.enc, bSel_t, bSel_f, cond_true, cond_false]
  | .ifc a, y => by
    cases y <;> first | exact .inl rfl | skip
    case ifc b => right; cases c <;> simp only [mrgV, DV.enc, bSel_t, bSel_f, cond_true, cond_false]
  | .nil q, y => by
    cases y <;> first | exact .inl rfl | skip
    case nil q' =>
      simp only [mrgV]
      split
      · rename_i hq; have := qeq_eq hq; subst this; right; cases c <;> rfl
      · exact .inl rfl
    case sl q' r l =>
      simp only [mrgV]
      split
      · rename_i hq; have := qeq_eq hq; subst this; right
        cases c <;> simp only [DV.enc, bSel_t, bSel_f, cond_true, cond_false, List.map_nil]
      · exact .inl rfl
  | .sl q r l, y => by
    cases y <;> first | exact .inl rfl | skip
    case nil q' =>
      simp only [mrgV]
      split
      · rename_i hq; have := qeq_eq hq; subst this; right
        cases c <;> simp only [DV.enc, bSel_t, bSel_f, cond_true, cond_false, List.map_nil]
      · exact .inl rfl
    case sl q' r' l' =>
      simp only [mrgV]
      split
      · rename_i hq; have := qeq_eq hq; subst this
        split
        · rename_i l2 hl
          right
          cases c <;> simp only [DV.enc, bSel_t, bSel_f, cond_true, cond_false, (castL_eq hl).2]
        · exact .inl rfl
      · exact .inl rfl
  | .box i o, y => by
    cases y <;> first | exact .inl rfl | skip
    case box i' o' =>
      simp only [mrgV]
      split
      · rename_i h; simp only [Bool.and_eq_true, beq_iff_eq] at h; obtain ⟨rfl, rfl⟩ := h; right; cases c <;> rfl
      · exact .inl rfl
  | .ptr i o, y => by
    cases y <;> first | exact .inl rfl | skip
    case ptr i' o' =>
      simp only [mrgV]
      split
      · rename_i h; simp only [Bool.and_eq_true, beq_iff_eq] at h; obtain ⟨rfl, rfl⟩ := h; right; cases c <;> rfl
      · exact .inl rfl
  | .agg a, y => by
    cases y <;> first | exact .inl rfl | skip
    case agg b =>
      simp only [mrgV]
      split
      · rename_i h; simp only [Bool.and_eq_true, beq_iff_eq] at h
        right
        have := mrgVL_s c a b h.1 h.2
        cases c <;> simp only [DV.enc, this, cond_true, cond_false]
      · exact .inl rfl
  | .tup a, y => by
    cases y <;> first | exact .inl rfl | skip
    case tup b =>
      simp only [mrgV]
      split
      · rename_i h; simp only [Bool.and_eq_true, beq_iff_eq] at h
        right
        have := mrgVL_s c a b h.1 h.2
        cases c <;> simp only [DV.enc, this, cond_true, cond_false]
      · exact .inl rfl
  | .any, y => by cases y <;> exact .inl rfl
  | .ep _ _ _ _ _, y => by cases y <;> exact .inl rfl
theorem mrgVL_s (c : Bool) : ∀ (x y : List DV), x.length = y.length → DV.okL (mrgVL c x y) = true → DV.encL (mrgVL c x y) = (bif c then DV.encL x else DV.encL y)
  | [], [], _, _ => by cases c <;> rfl
  | [], _ :: _, h, _ => by cases h
  | _ :: _, [], h, _ => by cases h
  | x :: a, y :: b, h, hk => by
    simp only [mrgVL, DV.okL, Bool.and_eq_true] at hk
    have h1 := mrgVL_s c a b (by simpa using h) hk.2
    rcases mrgV_s c x y with h2 | h2
    · rw [h2] at hk; cases hk.1
    · simp only [mrgVL, DV.encL, h1, h2]
      cases c <;> rfl
end
theorem mrgV_EV {c : Bool} {x y : DV} {p : PV} (h : EV (bif c then x else y) p) : EV (mrgV c x y) p := by
  rcases mrgV_s c x y with h1 | h1
  · exact .inl h1
  · cases c with
    | true =>
      rcases h with h | h
      · simp only [cond_true] at h
        subst h
        exact .inl (by cases y <;> rfl)
      · exact .inr (by rw [h1]; exact h)
    | false =>
      rcases h with h | h
      · simp only [cond_false] at h
        subst h
        exact .inl (by cases x <;> rfl)
      · exact .inr (by rw [h1]; exact h)
/-- Rows that are merged, over a clean row of before. -/
theorem mrgCL_s {c : Bool} : ∀ {b x y : List DC} {p : List PV}, Chg b x → Chg b y → x.length = y.length → EL (bif c then x else y) p → EL (mrgCL c x y) p
  | _, [], [], p, _, _, _, h => by cases c <;> exact h
  | _, [], _ :: _, _, _, _, h, _ => by cases h
  | _, _ :: _, [], _, _, _, h, _ => by cases h
  | b, x :: a, y :: e, [], _, _, _, h => by cases c <;> exact h.elim
  | b, x :: a, y :: e, q :: p, h1, h2, hl, h => by
    have hr : ∃ b', Chg b' a ∧ Chg b' e ∧ ((x.d = true ∨ y.d = true) ∨ x = y) := by
      cases b with
      | nil => exact ⟨[], h1.2, h2.2, .inl (.inl h1.1)⟩
      | cons b0 b =>
        refine ⟨b, h1.2, h2.2, ?_⟩
        rcases h1.1 with e1 | e1
        · exact .inl (.inl e1)
        · rcases h2.1 with e2 | e2
          · exact .inl (.inr e2)
          · exact .inr (e1.trans e2.symm)
    obtain ⟨b', h3, h4, h5⟩ := hr
    have ih := mrgCL_s (c := c) (p := p) h3 h4 (by simpa using hl) (by cases c <;> exact h.2)
    refine ⟨?_, ih⟩
    have hv : EV (bif c then x.v else y.v) q := by cases c <;> exact h.1
    unfold mrgC
    split
    · exact mrgV_EV hv
    · rename_i hd
      rcases h5 with h5 | h5
      · exfalso; apply hd; rcases h5 with h5 | h5 <;> simp [h5]
      · subst h5; cases c <;> exact hv
theorem mrgBx_s {c : Bool} : ∀ {b x y : List (List DC)} {p : List (List PV)}, ChgB b x → ChgB b y → x.length = y.length → EB (bif c then x else y) p → EB (mrgBx c x y) p
  | _, [], [], p, _, _, _, h => by cases c <;> exact h
  | _, [], _ :: _, _, _, _, h, _ => by cases h
  | _, _ :: _, [], _, _, _, h, _ => by cases h
  | b, x :: a, y :: e, [], _, _, _, h => by cases c <;> exact h.elim
  | b, x :: a, y :: e, q :: p, h1, h2, hl, h => by
    have hr : ∃ b0 b', Chg b0 x ∧ Chg b0 y ∧ ChgB b' a ∧ ChgB b' e := by
      cases b with
      | nil => exact ⟨[], [], h1.1, h2.1, h1.2, h2.2⟩
      | cons b0 b => exact ⟨b0, b, h1.1, h2.1, h1.2, h2.2⟩
    obtain ⟨b0, b', h3, h4, h5, h6⟩ := hr
    have ih := mrgBx_s (c := c) (p := p) h5 h6 (by simpa using hl) (by cases c <;> exact h.2)
    refine ⟨?_, ih⟩
    have hv : EBx (bif c then x else y) q := by cases c <;> exact h.1
    split
    · rename_i hxy
      have hxy : x.length = y.length := by simpa using hxy
      rcases hv with hv | hv
      · cases c
        · simp only [cond_false] at hv
          subst hv
          have : x = [] := List.eq_nil_of_length_eq_zero hxy
          subst this; exact .inl rfl
        · simp only [cond_true] at hv
          subst hv
          have : y = [] := List.eq_nil_of_length_eq_zero hxy.symm
          subst this; exact .inl rfl
      · exact .inr (mrgCL_s h3 h4 hxy hv)
    · exact .inl rfl
theorem mrgS_s {c : Bool} {b x y z : DS} {s : PS} (hx : ChgS b x) (hy : ChgS b y) (h : mrgS c x y = some z) (hs : ES (bif c then x else y) s) : ES z s := by
  unfold mrgS at h
  split at h
  · rename_i hl
    simp only [Bool.and_eq_true, beq_iff_eq] at hl
    simp only [Option.some.injEq] at h
    subst h
    exact ⟨mrgCL_s hx.sl hy.sl hl.1.1 (by cases c <;> exact hs.sl), mrgBx_s hx.bx hy.bx hl.1.2 (by cases c <;> exact hs.bx), mrgBx_s hx.hp hy.hp hl.2 (by cases c <;> exact hs.hp)⟩
  · cases h
theorem mrgCL_chg {c : Bool} : ∀ {b x y : List DC}, Chg b x → Chg b y → Chg b (mrgCL c x y)
  | b, [], _, _, _ => by cases b <;> trivial
  | b, _ :: _, [], _, _ => by cases b <;> trivial
  | [], x :: a, y :: e, h, h' => ⟨by simp [mrgC, h.1], mrgCL_chg h.2 h'.2⟩
  | b :: _, x :: a, y :: e, h, h' => by
    refine ⟨?_, mrgCL_chg h.2 h'.2⟩
    unfold mrgC
    split
    · exact .inl rfl
    · exact h.1
theorem mrgBx_chg {c : Bool} : ∀ {b x y : List (List DC)}, ChgB b x → ChgB b y → ChgB b (mrgBx c x y)
  | b, [], _, _, _ => by cases b <;> trivial
  | b, _ :: _, [], _, _ => by cases b <;> trivial
  | [], x :: a, y :: e, h, h' => by
    refine ⟨?_, mrgBx_chg h.2 h'.2⟩
    split
    · exact mrgCL_chg h.1 h'.1
    · trivial
  | b :: _, x :: a, y :: e, h, h' => by
    refine ⟨?_, mrgBx_chg h.2 h'.2⟩
    split
    · exact mrgCL_chg h.1 h'.1
    · cases b <;> trivial
theorem mrgS_chg {c : Bool} {b x y z : DS} (hx : ChgS b x) (hy : ChgS b y) (h : mrgS c x y = some z) : ChgS b z := by
  unfold mrgS at h
  split at h
  · simp only [Option.some.injEq] at h
    subst h
    exact ⟨mrgCL_chg hx.sl hy.sl, mrgBx_chg hx.bx hy.bx, mrgBx_chg hx.hp hy.hp⟩
  · cases h
end Go.Ag

namespace Go.Ag
set_option linter.unusedSimpArgs false
set_option linter.unusedVariables false

theorem PX.land_den : ∀ (a b : PX), (a.land b).den ↔ a.den ∧ b.den
  | .tt, b => by simp [PX.land, PX.den]
  | .ff, b => by simp [PX.land, PX.den]
  | .p h, b => by cases b <;> simp [PX.land, PX.den]
  | .and x y, b => by cases b <;> simp [PX.land, PX.den]
  | .ite c x y, b => by cases b <;> simp [PX.land, PX.den]
theorem PX.if_den (c : Bool) (a b : PX) : (PX.if' c a b).den ↔ (c = true → a.den) ∧ (c = false → b.den) := by
  cases a <;> cases b <;> simp [PX.if', PX.den]

def AExit.isN : AExit → Bool
  | .normal => true
  | _ => false
/-- The end that is taken. -/
def DT.lf : DT → Option (AExit × DS)
  | .leaf e st => some (e, st)
  | .node c a b => (match c with | true => a.lf | false => b.lf)
  | .chk _ t => t.lf
  | .bad => none
def DT.All (P : DS → Prop) : DT → Prop
  | .leaf _ st => P st
  | .node _ a b => a.All P ∧ b.All P
  | .chk _ t => t.All P
  | .bad => True
theorem DT.All.imp {P Q : DS → Prop} (h : ∀ st, P st → Q st) : ∀ {t : DT}, t.All P → t.All Q
  | .leaf _ _, a => h _ a
  | .node _ _ _, a => ⟨DT.All.imp h a.1, DT.All.imp h a.2⟩
  | .chk _ t, a => DT.All.imp h (t := t) a
  | .bad, _ => trivial
theorem DT.ok_lf : ∀ {t : DT}, t.ok.den → ∃ e st, t.lf = some (e, st)
  | .leaf e st, _ => ⟨e, st, rfl⟩
  | .node c a b, h => by
    have h := (PX.if_den c a.ok b.ok).mp h
    cases c
    · exact DT.ok_lf (t := b) (h.2 rfl)
    · exact DT.ok_lf (t := a) (h.1 rfl)
  | .chk g t, h => DT.ok_lf (t := t) ((PX.land_den g t.ok).mp h).2
  | .bad, h => h.elim
theorem DT.All.lf {P : DS → Prop} : ∀ {t : DT} {e : AExit} {st : DS}, t.All P → t.lf = some (e, st) → P st
  | .leaf e st, _, _, h, hl => by simp only [DT.lf, Option.some.injEq, Prod.mk.injEq] at hl; obtain ⟨_, rfl⟩ := hl; exact h
  | .node c a b, _, _, h, hl => by
    cases c
    · exact DT.All.lf (t := b) h.2 hl
    · exact DT.All.lf (t := a) h.1 hl
  | .chk g t, _, _, h, hl => DT.All.lf (t := t) h hl
  | .bad, _, _, _, hl => by cases hl

theorem DT.norm_chg {b : DS} : ∀ {t : DT} {m : DS}, t.All (ChgS b) → t.norm = .some m → ChgS b m
  | .leaf e st, m, h, hn => by
    cases e <;> simp only [DT.norm, reduceCtorEq, NS.some.injEq] at hn
    subst hn; exact h
  | .node c x y, m, h, hn => by
    simp only [DT.norm] at hn
    cases h1 : x.norm with
    | none => rw [h1] at hn; exact DT.norm_chg h.2 hn
    | fail =>
      rw [h1] at hn
      cases h2 : y.norm <;> rw [h2] at hn <;> cases hn
    | some a =>
      rw [h1] at hn
      cases h2 : y.norm with
      | none => rw [h2] at hn; exact DT.norm_chg h.1 (h1.trans hn)
      | fail => rw [h2] at hn; cases hn
      | some e =>
        rw [h2] at hn
        simp only at hn
        cases h3 : mrgS c a e with
        | none => rw [h3] at hn; cases hn
        | some z =>
          rw [h3] at hn
          simp only [NS.some.injEq] at hn
          subst hn
          exact mrgS_chg (DT.norm_chg h.1 h1) (DT.norm_chg h.2 h2) h3
  | .chk g t, m, h, hn => DT.norm_chg (t := t) h hn
  | .bad, m, h, hn => by cases hn
theorem DT.norm_none : ∀ {t : DT} {e : AExit} {st : DS}, t.norm = .none → t.lf = some (e, st) → e.isN = false
  | .leaf e st, _, _, hn, hl => by
    simp only [DT.lf, Option.some.injEq, Prod.mk.injEq] at hl
    obtain ⟨rfl, _⟩ := hl
    cases e <;> first | rfl | cases hn
  | .node c x y, e, st, hn, hl => by
    simp only [DT.norm] at hn
    have hxy : x.norm = .none ∧ y.norm = .none := by
      cases h1 : x.norm <;> rw [h1] at hn <;> cases h2 : y.norm <;> rw [h2] at hn <;> first | exact ⟨rfl, rfl⟩ | (cases hn; done) | (simp only at hn; split at hn <;> cases hn)
    cases c
    · exact DT.norm_none hxy.2 hl
    · exact DT.norm_none hxy.1 hl
  | .chk g t, _, _, hn, hl => DT.norm_none (t := t) hn hl
  | .bad, _, _, _, hl => by cases hl
theorem DT.norm_s {b : DS} : ∀ {t : DT} {m st : DS} {s : PS}, t.All (ChgS b) → t.norm = .some m → t.lf = some (.normal, st) → ES st s → ES m s
  | .leaf e st0, m, st, s, h, hn, hl, hs => by
    simp only [DT.lf, Option.some.injEq, Prod.mk.injEq] at hl
    obtain ⟨rfl, rfl⟩ := hl
    simp only [DT.norm, NS.some.injEq] at hn
    subst hn; exact hs
  | .node c x y, m, st, s, h, hn, hl, hs => by
    simp only [DT.norm] at hn
    cases h1 : x.norm with
    | none =>
      rw [h1] at hn
      cases c with
      | true => have := DT.norm_none h1 hl; cases this
      | false => exact DT.norm_s h.2 hn hl hs
    | fail =>
      rw [h1] at hn
      cases h2 : y.norm <;> rw [h2] at hn <;> cases hn
    | some a =>
      rw [h1] at hn
      cases h2 : y.norm with
      | none =>
        rw [h2] at hn
        cases c with
        | true => exact DT.norm_s h.1 (h1.trans hn) hl hs
        | false => have := DT.norm_none h2 hl; cases this
      | fail => rw [h2] at hn; cases hn
      | some e =>
        rw [h2] at hn
        simp only at hn
        cases h3 : mrgS c a e with
        | none => rw [h3] at hn; cases hn
        | some z =>
          rw [h3] at hn
          simp only [NS.some.injEq] at hn
          subst hn
          refine mrgS_s (DT.norm_chg h.1 h1) (DT.norm_chg h.2 h2) h3 ?_
          cases c with
          | true => exact DT.norm_s h.1 h1 hl hs
          | false => exact DT.norm_s h.2 h2 hl hs
  | .chk g t, m, st, s, h, hn, hl, hs => DT.norm_s (t := t) h hn hl hs
  | .bad, m, st, s, h, hn, hl, hs => by cases hl
theorem DT.cont_s : ∀ {t : DT} {b : BX} {e : AExit} {st : DS}, t.cont = some b → t.lf = some (e, st) → b.b = e.isN
  | .leaf e st0, b, e', st, hc, hl => by
    simp only [DT.lf, Option.some.injEq, Prod.mk.injEq] at hl
    obtain ⟨rfl, _⟩ := hl
    cases e <;> simp only [DT.cont, Option.some.injEq] at hc <;> subst hc <;> rfl
  | .node c x y, b, e, st, hc, hl => by
    have hno : ∀ {t : DT}, t.cont = none → t.lf = none := by
      intro t
      induction t with
      | leaf e st => intro h; cases e <;> cases h
      | node c x y ih1 ih2 =>
        intro h
        simp only [DT.cont] at h
        cases h1 : x.cont <;> rw [h1] at h <;> cases h2 : y.cont <;> rw [h2] at h <;> first | (cases h; done) | skip
        cases c
        · exact ih2 h2
        · exact ih1 h1
      | chk g t ih => intro h; exact ih h
      | bad => intro _; rfl
    simp only [DT.cont] at hc
    cases h1 : x.cont with
    | none =>
      rw [h1] at hc
      cases c with
      | true => simp only [DT.lf, hno h1] at hl; cases hl
      | false => exact DT.cont_s hc hl
    | some p =>
      rw [h1] at hc
      cases h2 : y.cont with
      | none =>
        rw [h2] at hc
        cases c with
        | true => exact DT.cont_s (h1.trans hc) hl
        | false => simp only [DT.lf, hno h2] at hl; cases hl
      | some q =>
        rw [h2] at hc
        simp only [Option.some.injEq] at hc
        subst hc
        rw [mrgB_s]
        cases c with
        | true => exact DT.cont_s h1 hl
        | false => exact DT.cont_s h2 hl
  | .chk g t, b, e, st, hc, hl => DT.cont_s (t := t) hc hl
  | .bad, b, e, st, hc, hl => by cases hl
theorem DT.cont_none : ∀ {t : DT}, t.cont = none → t.lf = none
  | .leaf e st, h => by cases e <;> cases h
  | .node c x y, h => by
    simp only [DT.cont] at h
    cases h1 : x.cont <;> rw [h1] at h <;> cases h2 : y.cont <;> rw [h2] at h <;> first | (cases h; done) | skip
    cases c
    · exact DT.cont_none (t := y) h2
    · exact DT.cont_none (t := x) h1
  | .chk g t, h => DT.cont_none (t := t) h
  | .bad, _ => rfl
theorem DT.drop_lf : ∀ {t : DT} {e : AExit} {st : DS}, t.lf = some (e, st) → e.isN = false → t.drop.lf = some (e, st)
  | .leaf e st0, e', st, hl, he => by
    simp only [DT.lf, Option.some.injEq, Prod.mk.injEq] at hl
    obtain ⟨rfl, rfl⟩ := hl
    cases e <;> first | rfl | cases he
  | .node c x y, e, st, hl, he => by
    have hnb : ∀ a b : DT, (DT.nodeB c a b).lf = some (e, st) ∨ (match c with | true => a.lf | false => b.lf) ≠ some (e, st) := by
      intro a b
      cases c with
      | true =>
        cases ha : a with
        | bad => right; simp [DT.lf]
        | _ =>
          rw [← ha]
          by_cases h : a.lf = some (e, st)
          · left
            cases hb : b <;> rw [ha] at h ⊢ <;> exact h
          · right; exact h
      | false =>
        cases hb : b with
        | bad => right; simp [DT.lf]
        | _ =>
          rw [← hb]
          by_cases h : b.lf = some (e, st)
          · left
            cases ha : a <;> rw [hb] at h ⊢ <;> exact h
          · right; exact h
    simp only [DT.drop]
    rcases hnb x.drop y.drop with h | h
    · exact h
    · exfalso; apply h
      cases c with
      | true => exact DT.drop_lf (t := x) hl he
      | false => exact DT.drop_lf (t := y) hl he
  | .chk g t, e, st, hl, he => DT.drop_lf (t := t) hl he
  | .bad, e, st, hl, he => by cases hl
theorem DT.drop_all {P : DS → Prop} : ∀ {t : DT}, t.All P → t.drop.All P
  | .leaf e st, h => by cases e <;> first | trivial | exact h
  | .node c x y, h => by
    have h1 := DT.drop_all h.1
    have h2 := DT.drop_all h.2
    simp only [DT.drop]
    cases hx : x.drop <;> cases hy : y.drop <;> rw [hx] at h1 <;> rw [hy] at h2 <;> first | trivial | exact h1 | exact h2 | exact ⟨h1, h2⟩
  | .chk g t, h => DT.drop_all (t := t) h
  | .bad, _ => trivial
theorem DT.map_lf (f : DS → DS) : ∀ (t : DT), (t.map f).lf = t.lf.map fun x => (x.1, f x.2)
  | .leaf _ _ => rfl
  | .node c a b => by
    cases c
    · exact DT.map_lf f b
    · exact DT.map_lf f a
  | .chk _ t => DT.map_lf f t
  | .bad => rfl
theorem DT.map_ok (f : DS → DS) : ∀ (t : DT), (t.map f).ok = t.ok
  | .leaf _ _ => rfl
  | .node c a b => by simp only [DT.map, DT.ok, DT.map_ok f a, DT.map_ok f b]
  | .chk _ t => by simp only [DT.map, DT.ok, DT.map_ok f t]
  | .bad => rfl
theorem DT.map_all {P Q : DS → Prop} {f : DS → DS} (h : ∀ st, P st → Q (f st)) : ∀ {t : DT}, t.All P → (t.map f).All Q
  | .leaf _ _, a => h _ a
  | .node _ _ _, a => ⟨DT.map_all h a.1, DT.map_all h a.2⟩
  | .chk _ t, a => DT.map_all h (t := t) a
  | .bad, _ => trivial
theorem DT.unexit_ok (i : Nat) : ∀ (t : DT), (t.unexit i).ok = t.ok
  | .leaf e st => by
    cases e <;> first | rfl | skip
    simp only [DT.unexit]; split <;> rfl
  | .node c a b => by simp only [DT.unexit, DT.ok, DT.unexit_ok i a, DT.unexit_ok i b]
  | .chk _ t => by simp only [DT.unexit, DT.ok, DT.unexit_ok i t]
  | .bad => rfl
def AExit.un (i : Nat) : AExit → AExit
  | .exit j => if j = i then .normal else .exit j
  | e => e
theorem DT.unexit_lf (i : Nat) : ∀ (t : DT), (t.unexit i).lf = t.lf.map fun x => (x.1.un i, x.2)
  | .leaf e st => by
    cases e <;> first | rfl | skip
    rename_i j
    simp only [DT.unexit, DT.lf, Option.map_some, AExit.un]
    by_cases h : j = i
    · rw [if_pos (by simpa using h), if_pos h]; rfl
    · rw [if_neg (by simpa using h), if_neg h]; rfl
  | .node c a b => by
    cases c
    · exact DT.unexit_lf i b
    · exact DT.unexit_lf i a
  | .chk _ t => DT.unexit_lf i t
  | .bad => rfl
theorem DT.unexit_all {P : DS → Prop} (i : Nat) : ∀ {t : DT}, t.All P → (t.unexit i).All P
  | .leaf e st, a => by
    cases e <;> first | exact a | skip
    simp only [DT.unexit]; split <;> exact a
  | .node _ _ _, a => ⟨DT.unexit_all i a.1, DT.unexit_all i a.2⟩
  | .chk _ t, a => DT.unexit_all i (t := t) a
  | .bad, _ => trivial
theorem DT.chk_ok (g : PX) (t : DT) : (DT.chk' g t).ok.den ↔ g.den ∧ t.ok.den := by
  cases g <;> simp only [DT.chk', DT.ok, PX.land_den, PX.den, true_and]
theorem DT.chk_lf (g : PX) (t : DT) : (DT.chk' g t).lf = t.lf := by cases g <;> rfl
theorem DT.chk_all {P : DS → Prop} (g : PX) {t : DT} (h : t.All P) : (DT.chk' g t).All P := by cases g <;> exact h

theorem DT.bind_s {f : DS → DT} {h : DS → DS} : ∀ {t : DT} {e : AExit} {st : DS}, (t.bind f h).ok.den → (t.bind f h).lf = some (e, st) →
    t.ok.den ∧ ((∃ st0, t.lf = some (.normal, st0) ∧ (f st0).ok.den ∧ (f st0).lf = some (e, st)) ∨ (e.isN = false ∧ ∃ st0, t.lf = some (e, st0) ∧ st = h st0))
  | .leaf e0 st0, e, st, ho, hl => by
    cases e0 with
    | normal => exact ⟨trivial, .inl ⟨st0, rfl, ho, hl⟩⟩
    | ret =>
      simp only [DT.bind, DT.lf, Option.some.injEq, Prod.mk.injEq] at hl
      obtain ⟨rfl, rfl⟩ := hl
      exact ⟨trivial, .inr ⟨rfl, st0, rfl, rfl⟩⟩
    | exit i =>
      simp only [DT.bind, DT.lf, Option.some.injEq, Prod.mk.injEq] at hl
      obtain ⟨rfl, rfl⟩ := hl
      exact ⟨trivial, .inr ⟨rfl, st0, rfl, rfl⟩⟩
  | .node c a b, e, st, ho, hl => by
    have ho := (PX.if_den c _ _).mp ho
    cases c with
    | true =>
      obtain ⟨h1, h2⟩ := DT.bind_s (t := a) (ho.1 rfl) hl
      exact ⟨(PX.if_den _ _ _).mpr ⟨fun _ => h1, fun h => by cases h⟩, h2⟩
    | false =>
      obtain ⟨h1, h2⟩ := DT.bind_s (t := b) (ho.2 rfl) hl
      exact ⟨(PX.if_den _ _ _).mpr ⟨fun h => (by cases h), fun _ => h1⟩, h2⟩
  | .chk g t, e, st, ho, hl => by
    have ho := (PX.land_den g _).mp ho
    obtain ⟨h1, h2⟩ := DT.bind_s (t := t) ho.2 hl
    exact ⟨(PX.land_den _ _).mpr ⟨ho.1, h1⟩, h2⟩
  | .bad, e, st, ho, hl => ho.elim
theorem DT.bind_all {P Q : DS → Prop} {f : DS → DT} {h : DS → DS} (hf : ∀ st, P st → (f st).All Q) (hh : ∀ st, P st → Q (h st)) : ∀ {t : DT}, t.All P → (t.bind f h).All Q
  | .leaf e st, a => by cases e <;> first | exact hf _ a | exact hh _ a
  | .node _ _ _, a => ⟨DT.bind_all hf hh a.1, DT.bind_all hf hh a.2⟩
  | .chk _ t, a => DT.bind_all hf hh (t := t) a
  | .bad, _ => trivial

/-- WHAT COMES BEHIND. -/
theorem DT.then_s {b : DS} {f : DS → DT} {h : DS → DS} {t : DT} {e : AExit} {st : DS} (hb : t.All (ChgS b)) (ho : (t.then f h).ok.den) (hl : (t.then f h).lf = some (e, st)) :
    t.ok.den ∧ ((∃ st0 m, t.lf = some (.normal, st0) ∧ (∀ s, ES st0 s → ES m s) ∧ ChgS b m ∧ (f m).ok.den ∧ (f m).lf = some (e, st)) ∨ (e.isN = false ∧ ∃ st0, t.lf = some (e, st0) ∧ st = h st0)) := by
  have viaBind : (t.bind f h).ok.den → (t.bind f h).lf = some (e, st) → t.ok.den ∧ ((∃ st0 m, t.lf = some (.normal, st0) ∧ (∀ s, ES st0 s → ES m s) ∧ ChgS b m ∧ (f m).ok.den ∧ (f m).lf = some (e, st)) ∨ (e.isN = false ∧ ∃ st0, t.lf = some (e, st0) ∧ st = h st0)) := fun ho hl => by
    obtain ⟨h1, h2⟩ := DT.bind_s ho hl
    refine ⟨h1, h2.imp ?_ id⟩
    rintro ⟨st0, h3, h4, h5⟩
    exact ⟨st0, st0, h3, fun _ h => h, hb.lf h3, h4, h5⟩
  unfold DT.then at ho hl
  split at ho
  · rename_i hn
    rw [if_pos hn] at hl
    exact viaBind ho hl
  · rename_i hn
    rw [if_neg hn] at hl
    cases hm : t.norm with
    | none => rw [hm] at ho hl; exact viaBind ho hl
    | fail => rw [hm] at ho hl; exact viaBind ho hl
    | some m =>
      rw [hm] at ho hl
      simp only [DT.chk_ok, DT.chk_lf] at ho hl
      obtain ⟨ho1, ho2⟩ := ho
      refine ⟨ho1, ?_⟩
      obtain ⟨e0, st0, h0⟩ := DT.ok_lf ho1
      have nrm : e0.isN = true → (f m).ok.den → (f m).lf = some (e, st) → ((∃ st0 m, t.lf = some (.normal, st0) ∧ (∀ s, ES st0 s → ES m s) ∧ ChgS b m ∧ (f m).ok.den ∧ (f m).lf = some (e, st)) ∨ (e.isN = false ∧ ∃ st0, t.lf = some (e, st0) ∧ st = h st0)) := fun he h1 h2 => by
        have he : e0 = .normal := by cases e0 <;> first | rfl | cases he
        subst he
        exact .inl ⟨st0, m, h0, fun s hs => DT.norm_s hb hm h0 hs, DT.norm_chg hb hm, h1, h2⟩
      cases hc : t.cont with
      | none => rw [hc] at ho2; exact ho2.elim
      | some c =>
        have hcs := DT.cont_s hc h0
        cases c with
        | lit c =>
          cases c with
          | false => rw [hc] at ho2; exact ho2.elim
          | true =>
            rw [hc] at ho2 hl
            exact nrm hcs.symm ho2 hl
        | dyn c =>
          rw [hc] at ho2 hl
          simp only [BX.b] at hcs
          subst hcs
          have ho2 := (PX.if_den _ _ _).mp ho2
          cases he : e0.isN with
          | true =>
            rw [he] at hl
            exact nrm he (ho2.1 he) hl
          | false =>
            rw [he] at hl
            simp only [DT.lf, DT.map_lf, DT.drop_lf h0 he, Option.map_some, Option.some.injEq, Prod.mk.injEq] at hl
            obtain ⟨rfl, rfl⟩ := hl
            exact .inr ⟨he, st0, h0, rfl⟩
theorem DT.then_all {b : DS} {Q : DS → Prop} {f : DS → DT} {h : DS → DS} {t : DT} (hb : t.All (ChgS b)) (hf : ∀ st, ChgS b st → (f st).All Q) (hh : ∀ st, ChgS b st → Q (h st)) : (t.then f h).All Q := by
  unfold DT.then
  split
  · exact DT.bind_all hf hh hb
  · cases hm : t.norm with
    | none => exact DT.bind_all hf hh hb
    | fail => exact DT.bind_all hf hh hb
    | some m =>
      have h1 := hf m (DT.norm_chg hb hm)
      refine DT.chk_all _ ?_
      cases hc : t.cont with
      | none => trivial
      | some c =>
        cases c with
        | lit c => cases c <;> first | trivial | exact h1
        | dyn c => exact ⟨h1, DT.map_all hh (DT.drop_all hb)⟩
end Go.Ag

namespace Go.Ag
set_option linter.unusedSimpArgs false
set_option linter.unusedVariables false

/-- A FUNCTION's third meaning is sound over its second. -/
def SoundD (p : PSem) (D : DSem) : Prop := ∀ (args : List DV) (g : PX) (v : DV) (Q : PV → List (List PV) → Prop), D args = some (g, v) → g.den → (∀ H, Q v.enc H) → p (DV.encL args) [] Q
def DOp.obs : DOp → List (PSem × DSem)
  | .a _ _ _ => []
  | .aw _ _ _ _ => []
  | .call _ _ p D _ => [(p, D)]
def dopsObs : List DOper → List (PSem × DSem)
  | [] => []
  | o :: r => o.op.obs ++ dopsObs r
def DCode.obs : DCode → List (PSem × DSem)
  | .skip => []
  | .region ops => dopsObs ops
  | .seq _ a b => a.obs ++ b.obs
  | .cond _ a b => a.obs ++ b.obs
  | .block _ a => a.obs
  | .loop _ _ a => a.obs
  | .exit _ => []
  | .ret => []
def AllD : List (PSem × DSem) → Prop
  | [] => True
  | (p, D) :: r => SoundD p D ∧ AllD r
theorem AllD.app : ∀ {a b : List (PSem × DSem)}, AllD (a ++ b) → AllD a ∧ AllD b
  | [], _, h => ⟨trivial, h⟩
  | (_, _) :: _, _, ⟨h1, h2⟩ => ⟨⟨h1, (AllD.app h2).1⟩, (AllD.app h2).2⟩

theorem dargc_known {c : DC} (h : c.v.argok = true) {p : PV} (hc : EC c p) : p = c.v.enc := by
  rcases hc with h1 | h1
  · rw [h1] at h; cases h
  · exact h1
theorem devL_s {d : DS} {s : PS} (hs : ES d s) : ∀ (args : List Opnd), dargsOk (devL d.sl args) = true → args.map (·.pev s.sl) = DV.encL (devL d.sl args)
  | [], _ => rfl
  | x :: r, h => by
    simp only [devL, dargsOk, Bool.and_eq_true] at h
    simp only [List.map_cons, devL, DV.encL, devL_s hs r h.2]
    rw [(x.dev_ev hs).of (by intro e; rw [e] at h; cases h.1)]
theorem any_hasPtr : ∀ (l : List PV), l.any PV.hasPtr = PV.hasPtrL l
  | [] => rfl
  | v :: r => by simp only [List.any_cons, PV.hasPtrL, any_hasPtr r]
theorem map_fz : ∀ (l : List PV), l.map PV.fz = PV.fzL l
  | [] => rfl
  | v :: r => by simp only [List.map_cons, PV.fzL, map_fz r]
theorem all_hold : ∀ (l : List PV), (l.all fun v => !v.hold) = !PV.holdL l
  | [] => rfl
  | v :: r => by simp only [List.all_cons, PV.holdL, all_hold r, Bool.not_or]
mutual
theorem deep_enc : ∀ (v : DV), v.deep = true → v.enc.deep = true
  | .undef, _ | .bool _, _ | .int _ _, _ | .str _, _ | .ifc _, _ | .ptr _ _, _ => rfl
  | .nil q, h => by cases q <;> first | rfl | cases h
  | .sl q r l, h => by cases q <;> first | (cases h; done) | exact rt_deepE r l
  | .agg cs, h => deepL_enc cs h
  | .tup cs, h => deepL_enc cs h
theorem deepL_enc : ∀ (l : List DV), DV.deepL l = true → PV.deepL (DV.encL l) = true
  | [], _ => rfl
  | v :: r, h => by
    simp only [DV.deepL, Bool.and_eq_true] at h
    simp only [DV.encL, PV.deepL, deep_enc v h.1, deepL_enc r h.2, Bool.and_self]
end
theorem retc_eq (v : DV) : v.enc.retc = v.retc := by
  cases v <;> first | rfl | skip
  case nil q => cases q <;> rfl
  case sl q r l => cases q <;> rfl
theorem retL_eq : ∀ (l : List DV), retL (DV.encL l) = dretL l
  | [] => rfl
  | v :: r => by simp only [DV.encL, retL, dretL, retc_eq v, retL_eq r]
theorem retok_eq (v : DV) : v.enc.retok = v.retok := by
  cases v <;> first | rfl | skip
  case nil q => exact retc_eq (.nil q)
  case sl q r l => exact retc_eq (.sl q r l)
  case agg cs => exact retL_eq cs
/-- Freezing of what is known. -/
theorem fzOut_ES {d : DS} {s : PS} (x : Opnd) (h : ES d s) (hk : ∀ n, x = .t n → dget d.sl n ≠ .any) : ES (dfzOut x d).2 (fzOut x s).2 := by
  cases x with
  | c v => exact h
  | t n =>
    simp only [dfzOut, dfzS, fzOut, fzS]
    have hg := (h.sl.get n).of (hk n rfl)
    rw [hg, own_enc, retok_eq]
    by_cases ho : (dget d.sl n).own = true
    · simp only [ho, if_true]
      by_cases hr : (dget d.sl n).retok = true
      · rw [if_pos hr, if_pos hr, ← fz_enc]
        exact ⟨(h.sl.put n (.inr rfl)).clr _, h.bx, h.hp⟩
      · rw [if_neg hr, if_neg hr]; exact h
    · simp only [ho]; exact h
theorem dget_put_any (v : DV) : ∀ (l : List DC) (k n : Nat), dget l n = .any → k ≠ n → dget (dput l k v) n = .any
  | [], _, _, _, _ => rfl
  | _ :: _, 0, 0, _, hn => absurd rfl hn
  | _ :: _, 0, _ + 1, h, _ => h
  | _ :: _, _ + 1, 0, h, _ => h
  | _ :: r, k + 1, n + 1, h, hn => dget_put_any v r k n h (by simpa using hn)
theorem dget_clr_any (hd : Hd) : ∀ (l : List DC) (n : Nat), dget l n = .any → dget (dclr hd l) n = .any
  | [], _, _ => rfl
  | c :: _, 0, h => by
    have h : c.v = .any := h
    simp only [dclr, h, DV.bor, Bool.false_eq_true, if_false, dget]
  | _ :: r, n + 1, h => dget_clr_any hd r n h
theorem dget_fz_any (x : Opnd) (d : DS) (n : Nat) (h : dget d.sl n = .any) : dget (dfzOut x d).2.sl n = .any := by
  cases x with
  | c v => exact h
  | t k =>
    simp only [dfzOut, dfzS]
    split
    · rename_i ho
      split
      · refine dget_clr_any _ _ _ (dget_put_any _ _ _ _ h ?_)
        rintro rfl; rw [h] at ho; cases ho
      · exact h
    · exact h
theorem dget_fzs_any : ∀ (args : List Opnd) (d : DS) (n : Nat), dget d.sl n = .any → dget (dfzArgs args d).sl n = .any
  | [], _, _, h => h
  | x :: r, d, n, h => dget_fzs_any r _ n (dget_fz_any x d n h)
theorem fzArgs_s : ∀ (args : List Opnd) {d : DS} {s : PS}, ES d s → (∀ x ∈ args, x.dev (dfzArgs args d).sl ≠ .any) → ES (dfzArgs args d) (fzArgs args s)
  | [], _, _, h, _ => h
  | x :: r, d, s, h, hk => by
    refine fzArgs_s r (fzOut_ES x h fun n hx hn => ?_) fun y hy => hk y (List.mem_cons_of_mem _ hy)
    subst hx
    exact hk (.t n) (List.mem_cons_self ..) (dget_fzs_any (.t n :: r) d n hn)
theorem devL_known {sl : List DC} : ∀ {args : List Opnd}, dargsOk (devL sl args) = true → ∀ x ∈ args, x.dev sl ≠ .any
  | [], _, _, hx => by cases hx
  | a :: r, h, x, hx => by
    simp only [devL, dargsOk, Bool.and_eq_true] at h
    rcases List.mem_cons.mp hx with rfl | hx
    · intro e; rw [e] at h; cases h.1
    · exact devL_known h.2 x hx
theorem DS.fzArgs_chg : ∀ (args : List Opnd) (d : DS), ChgS d (dfzArgs args d)
  | [], d => ChgS.refl d
  | x :: r, d => (ChgS.fzOut x d).trans (DS.fzArgs_chg r _)

section
variable {E : AExit} {D' : DS}
/-- What is to be shown of all that comes behind. -/
def Rest (E : AExit) (D' : DS) (K : DS → DT) (k : PS → Prop) : Prop := ∀ d s, ES d s → (K d).ok.den → (K d).lf = some (E, D') → k s

theorem dcall_s {D : DSem} {p : PSem} (hp : SoundD p D) {args : List Opnd} {d d1 : DS} {s : PS} {g : PX} {v : DV} {dst : Option Nat} {k : PS → Prop} (hs : ES d s) (h : dcall D args d = some (g, v, d1)) (hg : g.den) (hk : ∀ s', ES (d1.put dst v) s' → k s') : pcall p args dst k s := by
  unfold dcall at h
  simp only at h
  split at h
  · rename_i hc
    simp only [Bool.and_eq_true, Bool.not_eq_true'] at hc
    obtain ⟨h1, h2⟩ := hc
    split at h
    · rename_i g1 v1 hD
      split at h
      · rename_i hr
        simp only [Bool.and_eq_true, Bool.not_eq_true', Bool.or_eq_true] at hr
        obtain ⟨⟨hok, hnp⟩, hdp⟩ := hr
        simp only [Option.some.injEq, Prod.mk.injEq] at h
        obtain ⟨rfl, rfl, rfl⟩ := h
        have e := devL_s hs args h1
        refine ⟨by rw [e]; exact argsOk_enc _ h1, ?_⟩
        rw [e, any_hasPtr, hasPtrL_enc, h2]
        simp only [Bool.false_eq_true, if_false]
        rw [map_fz, ← fzL_enc]
        refine hp _ _ _ _ hD hg fun H => ⟨?_, ?_⟩
        · rw [hasPtr_enc, hnp, all_hold, holdL_enc]
          rcases hdp with h | h
          · simp [deep_enc _ h]
          · simp [h]
        · rw [hasPtr_enc, hnp]
          simp only [Bool.false_eq_true, if_false]
          exact hk _ (hs.put dst v1)
      · cases h
    · cases h
  · cases h
theorem dcall_st {D : DSem} {args : List Opnd} {d d1 : DS} {g : PX} {v : DV} (h : dcall D args d = some (g, v, d1)) : d1 = d ∧ dargsOk (devL d.sl args) = true := by
  unfold dcall at h
  simp only at h
  split at h
  · rename_i hc
    simp only [Bool.and_eq_true] at hc
    split at h
    · split at h
      · simp only [Option.some.injEq, Prod.mk.injEq] at h
        exact ⟨h.2.2.symm, hc.1⟩
      · cases h
    · cases h
  · cases h
theorem pick_mv {d : DS} {s : PS} (x : Opnd) (hs : ES d s) (hk : x.dev d.sl ≠ .any) (ho : (x.dev d.sl).own = false) : mvOut x s = ((x.dev d.sl).enc, s) := by
  cases x with
  | c v => simp only [mvOut, Opnd.dev]; rw [ofVd_enc v hk]
  | t n =>
    have := (hs.sl.get n).of hk
    simp only [mvOut, mvS, this, own_enc, Opnd.dev] at ho ⊢
    rw [if_neg (by simp [ho])]

theorem dpop_s {o : DOp} (ho : AllD o.obs) {dst : Option Nat} {K : DS → DT} {k : PS → Prop} (hK : Rest E D' K k) : Rest E D' (dpop o dst K) (fun s => pop o.er dst k s) := by
  intro d s hs hok hl
  cases o with
  | call m f p D args =>
    simp only [dpop] at hok hl
    simp only [DOp.er, pop]
    cases hc : dcall D args (if m = true then dfzArgs args d else d) with
    | none => rw [hc] at hok; exact hok.elim
    | some r =>
      obtain ⟨g, v, d1⟩ := r
      rw [hc] at hok hl
      simp only [DT.chk_ok, DT.chk_lf] at hok hl
      obtain ⟨e1, e2⟩ := dcall_st hc
      have hs' : ES (if m = true then dfzArgs args d else d) (if m = true then fzArgs args s else s) := by
        cases m with
        | false => exact hs
        | true => exact fzArgs_s args hs (devL_known e2)
      exact dcall_s ho.1 hs' hc hok.1 fun s' hs' => hK _ _ hs' hok.2 hl
  | aw ws m o ty =>
    simp only [dpop] at hok hl
    simp only [DOp.er, pop]
    cases hst : dstepW ws m o ty d with
    | none => rw [hst] at hok; exact hok.elim
    | some r =>
      obtain ⟨g, v, d1⟩ := r
      rw [hst] at hok hl
      simp only [DT.chk_ok, DT.chk_lf] at hok hl
      obtain ⟨s', v0, e1, e2, e3⟩ := dstepW_sound hs hst hok.1
      simp only [e1, e2]
      exact hK _ _ (e3.put dst v) hok.2 hl
  | a m o ty =>
    have gen : (match dstep m o ty d with | some (g, v, st) => DT.chk' g (K (st.put dst v)) | none => DT.bad).ok.den → (match dstep m o ty d with | some (g, v, st) => DT.chk' g (K (st.put dst v)) | none => DT.bad).lf = some (E, D') → pop (DOp.a m o ty).er dst k s := by
      intro hok hl
      cases hst : dstep m o ty d with
      | none => rw [hst] at hok; exact hok.elim
      | some r =>
        obtain ⟨g, v, d1⟩ := r
        rw [hst] at hok hl
        simp only [DT.chk_ok, DT.chk_lf] at hok hl
        obtain ⟨s', e1, e2⟩ := dstep_sound hs hst hok.1
        simp only [DOp.er, pop, e1]
        exact hK _ _ (e2.put dst v) hok.2 hl
    cases o <;> first | exact gen hok hl | skip
    case pick c a b =>
      clear gen
      simp only [dpop] at hok hl
      have hc := c.dev_ev hs
      have one : ∀ (x : Opnd), (match dmvOut x d with | (v, st) => if v.ok = true then K (st.put dst v) else DT.bad).ok.den → (match dmvOut x d with | (v, st) => if v.ok = true then K (st.put dst v) else DT.bad).lf = some (E, D') → k ((mvOut x s).2.put dst (mvOut x s).1) := by
        intro x hok hl
        by_cases hv : (dmvOut x d).1.ok = true
        · simp only [if_pos hv] at hok hl
          obtain ⟨m1, m2⟩ := mvOut_sound x hs hv
          rw [m1]
          exact hK _ _ (m2.put dst _) hok hl
        · simp only [if_neg hv] at hok
          exact hok.elim
      cases hcv : c.dev d.sl with
      | bool t =>
        rw [hcv] at hc
        have hp := hc.of (by simp)
        simp only [DOp.er, pop, pstep, hp, DV.enc]
        cases t with
        | lit t =>
          rw [hcv] at hok hl
          cases t with
          | true => exact one a hok hl
          | false => exact one b hok hl
        | dyn t =>
          rw [hcv] at hok hl
          simp only at hok hl
          split at hok
          · rename_i h
            rw [if_pos h] at hl
            have hok := (PX.if_den _ _ _).mp hok
            cases t with
            | true => exact one a (hok.1 rfl) hl
            | false => exact one b (hok.2 rfl) hl
          · rename_i h
            rw [if_neg h] at hl
            simp only [Bool.not_eq_true, Bool.or_eq_false_iff, Bool.not_eq_false'] at h
            obtain ⟨⟨h1, h2⟩, h3⟩ := h
            have ka : a.dev d.sl ≠ .any := by
              intro e; rw [e] at h3; cases hb : b.dev d.sl <;> rw [hb] at h3 <;> cases h3
            have kb : b.dev d.sl ≠ .any := by
              intro e; rw [e] at h3; cases hb : a.dev d.sl <;> rw [hb] at h3 <;> cases h3
            have hm : mrgV t (a.dev d.sl) (b.dev d.sl) ≠ .any := by intro e; rw [e] at h3; cases h3
            have he := (mrgV_s t (a.dev d.sl) (b.dev d.sl)).resolve_left hm
            have := hK _ _ (hs.put dst (mrgV t (a.dev d.sl) (b.dev d.sl))) hok hl
            rw [he] at this
            simp only [BX.b]
            cases t with
            | true => simp only [if_true, pick_mv a hs ka h1]; exact this
            | false => simp only [Bool.false_eq_true, if_false, pick_mv b hs kb h2]; exact this
      | _ => rw [hcv] at hok; exact hok.elim
theorem setg_ES {d : DS} {s : PS} {g : Nat} {b : Bool} (hs : ES d s) (h : pget s.sl g = .fl (.bool b)) : ES (setg d g b) s := by
  refine ⟨?_, hs.bx, hs.hp⟩
  have : ∀ {a : List DC} {l : List PV} (n : Nat), EL a l → pget l n = .fl (.bool b) → EL (dput a n (.bool (.lit b))) l := by
    intro a
    induction a with
    | nil => intro l n h _; exact h
    | cons c a ih =>
      intro l n h hg
      cases l with
      | nil => exact h.elim
      | cons p l =>
        cases n with
        | zero => exact ⟨.inr hg, h.2⟩
        | succ n => exact ⟨h.1, ih n h.2 hg⟩
  exact this g hs.sl h
theorem doper_s {o : DOper} (ho : AllD o.op.obs) {K : DS → DT} {k : PS → Prop} (hK : Rest E D' K k) : Rest E D' (doper o K) (fun s => poper o.er k s) := by
  intro d s hs hok hl
  have skip : ∀ {d s}, ES d s → (K (d.put o.dst (.tup []))).ok.den → (K (d.put o.dst (.tup []))).lf = some (E, D') → k (s.put o.dst (.tup [])) := fun hs hok hl => hK _ _ (hs.put o.dst (.tup [])) hok hl
  unfold doper at hok hl
  unfold poper
  simp only [DOper.er]
  cases hg : o.guard with
  | none => rw [hg] at hok hl; exact dpop_s ho hK d s hs hok hl
  | some g =>
    obtain ⟨g, want⟩ := g
    rw [hg] at hok hl
    simp only at hok hl ⊢
    have hv := hs.sl.get g
    cases hgv : dget d.sl g with
    | bool t =>
      rw [hgv] at hok hl hv
      have hp := hv.of (by simp)
      simp only [DV.enc] at hp
      rw [hp]
      simp only
      cases t with
      | lit t =>
        simp only at hok hl
        by_cases hw : t = want
        · rw [if_pos (by simpa using hw)] at hok hl
          rw [if_pos (show (BX.lit t).b = want from hw)]
          exact dpop_s ho hK d s hs hok hl
        · rw [if_neg (by simpa using hw)] at hok hl
          rw [if_neg (show ¬ (BX.lit t).b = want from hw)]
          exact skip hs hok hl
      | dyn t =>
        simp only [BX.b] at hp ⊢
        have hok := (PX.if_den _ _ _).mp hok
        have hs2 := setg_ES hs hp
        cases t with
        | true =>
          have hok := hok.1 rfl
          simp only [DT.lf] at hl
          cases want with
          | true => exact dpop_s ho hK _ s hs2 hok hl
          | false => exact skip hs2 hok hl
        | false =>
          have hok := hok.2 rfl
          simp only [DT.lf] at hl
          cases want with
          | true => exact skip hs2 hok hl
          | false => exact dpop_s ho hK _ s hs2 hok hl
    | tup vs =>
      cases vs with
      | nil =>
        rw [hgv] at hok hl hv
        have hp := hv.of (by simp)
        simp only [DV.enc, DV.encL] at hp
        rw [hp]
        exact skip hs hok hl
      | cons v r => rw [hgv] at hok; exact hok.elim
    | _ => rw [hgv] at hok; exact hok.elim
theorem dops_s : ∀ (ops : List DOper), AllD (dopsObs ops) → ∀ {k : PS → Prop}, E = .normal → (∀ s, ES D' s → k s) → Rest E D' (dops ops) (fun s => pops (ops.map fun o => o.er) k s)
  | [], _, k, hE, hk => by
    intro d s hs hok hl
    simp only [dops, DT.lf, Option.some.injEq, Prod.mk.injEq] at hl
    obtain ⟨_, rfl⟩ := hl
    exact hk s hs
  | o :: r, ho, k, hE, hk => by
    obtain ⟨h1, h2⟩ := ho.app
    exact doper_s h1 (dops_s r h2 hE hk)
end

/-! ### Marks -/
theorem dpop_all {o : DOp} {dst : Option Nat} {K : DS → DT} {b : DS} (hK : ∀ d, ChgS b d → (K d).All (ChgS b)) : ∀ d, ChgS b d → (dpop o dst K d).All (ChgS b) := by
  intro d hd
  cases o with
  | call m f p D args =>
    simp only [dpop]
    cases hc : dcall D args (if m = true then dfzArgs args d else d) with
    | none => trivial
    | some r =>
      obtain ⟨g, v, d1⟩ := r
      obtain ⟨rfl, _⟩ := dcall_st hc
      refine DT.chk_all _ (hK _ ((hd.trans ?_).trans (ChgS.put _ _ _)))
      cases m with
      | true => exact DS.fzArgs_chg args d
      | false => exact ChgS.refl d
  | aw ws m o ty =>
    simp only [dpop]
    cases hst : dstepW ws m o ty d with
    | none => trivial
    | some r =>
      obtain ⟨g, v, d1⟩ := r
      exact DT.chk_all _ (hK _ ((hd.trans (dstepW_chg hst)).trans (ChgS.put _ _ _)))
  | a m o ty =>
    have gen : (match dstep m o ty d with | some (g, v, st) => DT.chk' g (K (st.put dst v)) | none => DT.bad).All (ChgS b) := by
      cases hst : dstep m o ty d with
      | none => trivial
      | some r =>
        obtain ⟨g, v, d1⟩ := r
        exact DT.chk_all _ (hK _ ((hd.trans (dstep_chg hst)).trans (ChgS.put _ _ _)))
    cases o <;> first | exact gen | skip
    case pick c x y =>
      simp only [dpop]
      have one : ∀ (x : Opnd), (match dmvOut x d with | (v, st) => if v.ok = true then K (st.put dst v) else DT.bad).All (ChgS b) := by
        intro x
        simp only
        split
        · exact hK _ ((hd.trans (ChgS.mvOut x d)).trans (ChgS.put _ _ _))
        · trivial
      cases hcv : c.dev d.sl with
      | bool t =>
        cases t with
        | lit t => cases t <;> exact one _
        | dyn t =>
          simp only
          split
          · exact ⟨one x, one y⟩
          · exact hK _ (hd.trans (ChgS.put _ _ _))
      | _ => trivial
theorem setg_chg (d : DS) (g : Nat) (t : Bool) : ChgS d (setg d g t) := ⟨Chg.put _ _ _, ChgB.refl _, ChgB.refl _⟩
theorem doper_all {o : DOper} {K : DS → DT} {b : DS} (hK : ∀ d, ChgS b d → (K d).All (ChgS b)) : ∀ d, ChgS b d → (doper o K d).All (ChgS b) := by
  intro d hd
  unfold doper
  have hp := dpop_all (o := o.op) (dst := o.dst) hK
  cases hg : o.guard with
  | none => exact hp d hd
  | some g =>
    obtain ⟨g, want⟩ := g
    simp only
    cases hgv : dget d.sl g with
    | bool t =>
      cases t with
      | lit t =>
        simp only
        split
        · exact hp d hd
        · exact hK _ (hd.trans (ChgS.put _ _ _))
      | dyn t =>
        have h1 := hd.trans (setg_chg d g true)
        have h2 := hd.trans (setg_chg d g false)
        cases want with
        | true => exact ⟨hp _ h1, hK _ (h2.trans (ChgS.put _ _ _))⟩
        | false => exact ⟨hK _ (h1.trans (ChgS.put _ _ _)), hp _ h2⟩
    | tup vs =>
      cases vs with
      | nil => exact hK _ (hd.trans (ChgS.put _ _ _))
      | cons v r => trivial
    | _ => trivial
theorem dops_all {b : DS} : ∀ (ops : List DOper) (d : DS), ChgS b d → (dops ops d).All (ChgS b)
  | [], _, h => h
  | _ :: r, d, h => doper_all (dops_all r) d h
theorem dops_n : ∀ (ops : List DOper) {d d' : DS} {e : AExit}, (dops ops d).lf = some (e, d') → e = .normal := by
  intro ops
  have pick : ∀ {K : DS → DT} {e : AExit} {d' : DS}, (∀ d, (K d).lf = some (e, d') → e = .normal) → ∀ (o : DOp) (dst : Option Nat) (d : DS), (dpop o dst K d).lf = some (e, d') → e = .normal := by
    intro K e d' hK o dst d hl
    cases o with
    | call m f p D args =>
      simp only [dpop] at hl
      split at hl
      · rw [DT.chk_lf] at hl; exact hK _ hl
      · cases hl
    | aw ws m o ty =>
      simp only [dpop] at hl
      split at hl
      · rw [DT.chk_lf] at hl; exact hK _ hl
      · cases hl
    | a m o ty =>
      have gen : (match dstep m o ty d with | some (g, v, st) => DT.chk' g (K (st.put dst v)) | none => DT.bad).lf = some (e, d') → e = .normal := by
        intro hl
        split at hl
        · rw [DT.chk_lf] at hl; exact hK _ hl
        · cases hl
      cases o <;> first | exact gen hl | skip
      case pick c x y =>
        simp only [dpop] at hl
        have one : ∀ (x : Opnd), (match dmvOut x d with | (v, st) => if v.ok = true then K (st.put dst v) else DT.bad).lf = some (e, d') → e = .normal := by
          intro x hl
          simp only at hl
          split at hl
          · exact hK _ hl
          · cases hl
        cases hcv : c.dev d.sl with
        | bool t =>
          rw [hcv] at hl
          cases t with
          | lit t => cases t <;> exact one _ hl
          | dyn t =>
            simp only at hl
            split at hl
            · cases t <;> exact one _ hl
            · exact hK _ hl
        | _ => rw [hcv] at hl; cases hl
  induction ops with
  | nil =>
    intro d d' e hl
    simp only [dops, DT.lf, Option.some.injEq, Prod.mk.injEq] at hl
    exact hl.1.symm
  | cons o r ih =>
    intro d d' e hl
    have hr : ∀ d, (dops r d).lf = some (e, d') → e = .normal := fun d h => ih h
    simp only [dops] at hl
    unfold doper at hl
    cases hg : o.guard with
    | none => rw [hg] at hl; exact pick hr _ _ _ hl
    | some g =>
      obtain ⟨g, want⟩ := g
      rw [hg] at hl
      simp only at hl
      cases hgv : dget d.sl g with
      | bool t =>
        rw [hgv] at hl
        cases t with
        | lit t =>
          simp only at hl
          split at hl
          · exact pick hr _ _ _ hl
          · exact hr _ hl
        | dyn t =>
          cases t <;> cases want <;> first | exact pick hr _ _ _ hl | exact hr _ hl
      | tup vs =>
        rw [hgv] at hl
        cases vs with
        | nil => exact hr _ hl
        | cons v r => cases hl
      | _ => rw [hgv] at hl; cases hl
end Go.Ag

namespace Go.Ag
set_option linter.unusedSimpArgs false
set_option linter.unusedVariables false

/-! ### A place that is written without a change of what it stands for -/
theorem EL.put1 {v : DV} : ∀ {a : List DC} {b : List PV} (n : Nat), EL a b → EV v (pget b n) → EL (dput a n v) b
  | [], _, _, h, _ => h
  | _ :: _, [], _, h, _ => h.elim
  | _ :: _, _ :: _, 0, h, hv => ⟨hv, h.2⟩
  | _ :: _, _ :: _, n + 1, h, hv => ⟨h.1, EL.put1 n h.2 hv⟩
theorem EBx.put1 {v : DV} {a : List DC} {b : List PV} (n : Nat) (h : EBx a b) (hv : EV v (pget b n)) : EBx (dput a n v) b := by
  rcases h with rfl | h
  · exact .inl rfl
  · exact .inr (h.put1 n hv)
theorem EB.put1 {v : List DC} : ∀ {a : List (List DC)} {b : List (List PV)} (n : Nat), EB a b → EBx v (pgetB b n) → EB (dputB a n v) b
  | [], _, _, h, _ => h
  | _ :: _, [], _, h, _ => h.elim
  | _ :: _, _ :: _, 0, h, hv => ⟨hv, h.2⟩
  | _ :: _, _ :: _, n + 1, h, hv => ⟨h.1, EB.put1 n h.2 hv⟩
def PS.at (s : PS) : Pl → PV
  | .s i => pget s.sl i
  | .b i c => pget (pgetB s.bx i) c
  | .h i c => pget (pgetB s.hp i) c
theorem EBx.get {a : List DC} {b : List PV} (n : Nat) (h : EBx a b) : EV (dget a n) (pget b n) := by
  rcases h with rfl | h
  · exact .inl rfl
  · exact h.get n
theorem ES.at {d : DS} {s : PS} (h : ES d s) (pl : Pl) : EV (d.at pl) (s.at pl) := by
  cases pl with
  | s i => exact h.sl.get i
  | b i c => exact (h.bx.get i).get c
  | h i c => exact (h.hp.get i).get c
theorem ES.wr {d : DS} {s : PS} (h : ES d s) (pl : Pl) {v : DV} (hv : EV v (s.at pl)) : ES (d.wr v pl) s := by
  cases pl with
  | s i => exact ⟨h.sl.put1 i hv, h.bx, h.hp⟩
  | b i c => exact ⟨h.sl, h.bx.put1 i ((h.bx.get i).put1 c hv), h.hp⟩
  | h i c => exact ⟨h.sl, h.bx, h.hp.put1 i ((h.hp.get i).put1 c hv)⟩

theorem ct_ofQ {q : Ql} {t : CT} {v : DV} {x : t.D} (h : t.ofQ q v = some x) : (t.dv q x).enc = v.enc ∧ v ≠ .any := by
  cases t with
  | int k =>
    cases v <;> try (cases h; done)
    rename_i k' n
    have h' : (if IntKind.same k k' = true then some n else none) = some x := h
    clear h
    split at h'
    · rename_i hk; have := same_eq hk; subst this
      have h' := Option.some.inj h'
      subst h'
      exact ⟨rfl, by simp⟩
    · cases h'
  | bool =>
    cases v <;> try (cases h; done)
    have h := Option.some.inj h
    subst h; exact ⟨rfl, by simp⟩
  | str =>
    cases v <;> try (cases h; done)
    have h := Option.some.inj h
    subst h; exact ⟨rfl, by simp⟩
  | ifc =>
    cases v <;> try (cases h; done)
    have h := Option.some.inj h
    subst h; exact ⟨rfl, by simp⟩
  | sl r =>
    cases v <;> try (cases h; done)
    case nil q' =>
      have h' : (if qeq q q' = true then some ([] : List r.D) else none) = some x := h
      clear h
      split at h'
      · rename_i hq; have := qeq_eq hq; subst this
        have h' := Option.some.inj h'
        subst h'; exact ⟨rfl, by simp⟩
      · cases h'
    case sl q' r' l =>
      have h' : (if qeq q q' = true then castL (r' := r') (r := r) l else none) = some x := h
      clear h
      split at h'
      · rename_i hq; have := qeq_eq hq; subst this
        refine ⟨?_, by simp⟩
        show PV.sl q _ = PV.sl q _
        rw [(castL_eq h').2]
      · cases h'
theorem ag_of : ∀ {l : List (Ql × CT)} {vs : List DV} {x : AgX l}, agOf l vs = some x → DV.encL (agDv l x) = DV.encL vs
  | [], [], _, _ => rfl
  | [a], [v], x, h => by
    show [(a.2.dv a.1 x).enc] = [v.enc]
    rw [(ct_ofQ (q := a.1) (t := a.2) h).1]
  | a :: b :: r, v :: vs, x, h => by
    have h' : (match a.2.ofQ a.1 v, agOf (b :: r) vs with | some x, some y => some (x, y) | _, _ => none) = some x := h
    clear h
    cases h1 : a.2.ofQ a.1 v with
    | none => rw [h1] at h'; cases h'
    | some p =>
      cases h2 : agOf (b :: r) vs with
      | none => rw [h1, h2] at h'; cases h'
      | some q =>
        rw [h1, h2] at h'
        have h' := Option.some.inj h'
        subst h'
        show (a.2.dv a.1 p).enc :: DV.encL (agDv (b :: r) q) = v.enc :: DV.encL vs
        rw [(ct_ofQ h1).1, ag_of h2]
theorem ht_of {t : HT} {v : DV} {x : t.D} (h : t.of v = some x) : (t.dv x).enc = v.enc ∧ v ≠ .any := by
  cases t with
  | one q t => exact ct_ofQ (q := q) (t := t) h
  | agg l =>
    cases v <;> try (cases h; done)
    rename_i cs
    refine ⟨?_, by simp⟩
    show PV.agg _ = PV.agg _
    rw [ag_of (l := l) h]
theorem wr_rd {A : DS} {s : PS} (hA : ES A s) : ∀ (H : List Hole) {K : DS} {x : HoX H}, ES K s → rdX A H = some x → ES (wrX K H x) s
  | [], K, x, hK, _ => hK
  | [a], K, x, hK, h => by
    have h : a.t.of (A.at a.pl) = some x := h
    obtain ⟨h1, h2⟩ := ht_of h
    refine hK.wr a.pl (.inr ?_)
    rw [h1, (hA.at a.pl).of h2]
  | a :: b :: r, K, x, hK, h => by
    have h' : (match a.t.of (A.at a.pl), rdX A (b :: r) with | some x, some y => some (x, y) | _, _ => none) = some x := h
    clear h
    cases h1 : a.t.of (A.at a.pl) with
    | none => rw [h1] at h'; cases h'
    | some p =>
      cases h2 : rdX A (b :: r) with
      | none => rw [h1, h2] at h'; cases h'
      | some q =>
        rw [h1, h2] at h'
        have h' := Option.some.inj h'
        subst h'
        obtain ⟨h3, h4⟩ := ht_of h1
        refine wr_rd hA (b :: r) (x := q) (hK.wr a.pl (.inr ?_)) h2
        rw [h3, (hA.at a.pl).of h4]
theorem wr_chg (d : DS) (v : DV) (pl : Pl) : ChgS d (d.wr v pl) := by
  cases pl with
  | s i => exact ⟨Chg.put _ _ _, ChgB.refl _, ChgB.refl _⟩
  | b i c => exact ⟨Chg.refl _, ChgB.put _ _ (Chg.put _ _ _), ChgB.refl _⟩
  | h i c => exact ⟨Chg.refl _, ChgB.refl _, ChgB.put _ _ (Chg.put _ _ _)⟩
theorem wrX_chg : ∀ (H : List Hole) (d : DS) (x : HoX H), ChgS d (wrX d H x)
  | [], d, _ => ChgS.refl d
  | [a], d, _ => wr_chg d _ _
  | a :: b :: r, d, x => (wr_chg d _ _).trans (wrX_chg (b :: r) _ _)

/-! ### The head's state -/
def LeC : List DC → List DC → Prop
  | [], [] => True
  | k :: a, b :: r => (k.v = .any ∨ k.v = b.v) ∧ LeC a r
  | _, _ => False
def LeB : List (List DC) → List (List DC) → Prop
  | [], [] => True
  | k :: a, b :: r => (k = [] ∨ LeC k b) ∧ LeB a r
  | _, _ => False
structure LeS (k b : DS) : Prop where
  sl : LeC k.sl b.sl
  bx : LeB k.bx b.bx
  hp : LeB k.hp b.hp
theorem LeC.refl : ∀ (k : List DC), LeC k k
  | [] => trivial
  | _ :: r => ⟨.inr rfl, LeC.refl r⟩
theorem LeB.refl : ∀ (k : List (List DC)), LeB k k
  | [] => trivial
  | k :: r => ⟨.inr (LeC.refl k), LeB.refl r⟩
theorem LeC.put {v : DV} : ∀ {k b : List DC} (n : Nat), LeC k b → dget k n = .any → LeC k (dput b n v)
  | [], [], _, h, _ => h
  | [], _ :: _, _, h, _ => h.elim
  | _ :: _, [], _, h, _ => h.elim
  | _ :: _, _ :: _, 0, h, ha => ⟨.inl ha, h.2⟩
  | _ :: _, _ :: _, n + 1, h, ha => ⟨h.1, LeC.put n h.2 ha⟩
theorem LeB.put {v : DV} : ∀ {k b : List (List DC)} (i c : Nat), LeB k b → dget (dgetB k i) c = .any → LeB k (dputB b i (dput (dgetB b i) c v))
  | [], [], _, _, h, _ => h
  | [], _ :: _, _, _, h, _ => h.elim
  | _ :: _, [], _, _, h, _ => h.elim
  | _ :: _, _ :: _, 0, c, h, ha => ⟨h.1.imp id fun h => h.put c ha, h.2⟩
  | _ :: _, _ :: _, n + 1, c, h, ha => ⟨h.1, LeB.put n c h.2 ha⟩
theorem isAny_eq {v : DV} (h : v.isAny = true) : v = .any := by cases v <;> first | rfl | cases h
theorem LeS.wr {k b : DS} {v : DV} {pl : Pl} (h : LeS k b) (ha : (k.at pl).isAny = true) : LeS k (b.wr v pl) := by
  have ha := isAny_eq ha
  cases pl with
  | s i => exact ⟨h.sl.put i ha, h.bx, h.hp⟩
  | b i c => exact ⟨h.sl, h.bx.put i c ha, h.hp⟩
  | h i c => exact ⟨h.sl, h.bx, h.hp.put i c ha⟩
theorem LeS.wrX {k : DS} : ∀ (H : List Hole) {b : DS} (x : HoX H), LeS k b → holesAny k H = true → LeS k (Go.Ag.wrX b H x)
  | [], _, _, h, _ => h
  | [a], _, _, h, ha => by
    simp only [holesAny, Bool.and_eq_true] at ha
    exact h.wr ha.1
  | a :: b :: r, _, x, h, ha => by
    have ha' : (k.at a.pl).isAny = true ∧ holesAny k (b :: r) = true := by
      have : ((k.at a.pl).isAny && holesAny k (b :: r)) = true := ha
      simpa [Bool.and_eq_true] using this
    exact LeS.wrX (b :: r) _ (h.wr ha'.1) ha'.2
theorem same_enc {a b : DV} (h : a.same b = true) : a.enc = b.enc ∧ b ≠ .any := by
  cases a <;> cases b <;> first | (cases h; done) | skip
  case undef.undef => exact ⟨rfl, by simp⟩
  case nil.nil q q' => have := qeq_eq h; subst this; exact ⟨rfl, by simp⟩
  case box.box => simp only [DV.same, Bool.and_eq_true, beq_iff_eq] at h; obtain ⟨rfl, rfl⟩ := h; exact ⟨rfl, by simp⟩
  case ptr.ptr => simp only [DV.same, Bool.and_eq_true, beq_iff_eq] at h; obtain ⟨rfl, rfl⟩ := h; exact ⟨rfl, by simp⟩
theorem fitC_s : ∀ {k b y : List DC} {p : List PV}, fitC k y = true → LeC k b → Chg (Go.Ag.clean b) y → EL y p → EL k p
  | [], _, [], p, _, _, _, h => h
  | [], _, _ :: _, _, h, _, _, _ => by cases h
  | _ :: _, _, [], _, h, _, _, _ => by cases h
  | _ :: _, [], _ :: _, _, _, h, _, _ => h.elim
  | _ :: _, _ :: _, _ :: _, [], _, _, _, h => h.elim
  | k :: a, b :: r, y :: l, q :: p, h, hl, hc, he => by
    simp only [fitC, Bool.and_eq_true, Bool.or_eq_true] at h
    refine ⟨?_, fitC_s h.2 hl.2 hc.2 he.2⟩
    rcases h.1 with (h1 | h1) | h1
    · exact .inl (isAny_eq h1)
    · rcases hl.1 with h2 | h2
      · exact .inl h2
      · rcases hc.1 with h3 | h3
        · simp [h3] at h1
        · have : y.v = k.v := by rw [h3, h2]
          rcases he.1 with h4 | h4
          · exact .inl (by rw [← this]; exact h4)
          · exact .inr (by rw [← this]; exact h4)
    · obtain ⟨h2, h3⟩ := same_enc h1
      rcases he.1 with h4 | h4
      · exact absurd h4 h3
      · exact .inr (by rw [h2]; exact h4)
theorem fitB_s : ∀ {k b y : List (List DC)} {p : List (List PV)}, fitB k y = true → LeB k b → ChgB (cleanB b) y → EB y p → EB k p
  | [], _, [], p, _, _, _, h => h
  | [], _, _ :: _, _, h, _, _, _ => by cases h
  | _ :: _, _, [], _, h, _, _, _ => by cases h
  | _ :: _, [], _ :: _, _, _, h, _, _ => h.elim
  | _ :: _, _ :: _, _ :: _, [], _, _, _, h => h.elim
  | k :: a, b :: r, y :: l, q :: p, h, hl, hc, he => by
    simp only [fitB, Bool.and_eq_true, Bool.or_eq_true, beq_iff_eq] at h
    refine ⟨?_, fitB_s h.2 hl.2 hc.2 he.2⟩
    rcases h.1 with h1 | h1
    · exact .inl (List.eq_nil_of_length_eq_zero h1)
    · rcases hl.1 with h2 | h2
      · exact .inl h2
      · rcases he.1 with h3 | h3
        · subst h3
          cases k with
          | nil => exact .inl rfl
          | cons => cases h1
        · exact .inr (fitC_s h1 h2 hc.1 h3)
theorem fitS_s {k b y : DS} {s : PS} (h : fitS k y = true) (hl : LeS k b) (hc : ChgS b.clean y) (he : ES y s) : ES k s := by
  simp only [fitS, Bool.and_eq_true] at h
  exact ⟨fitC_s h.1.1 hl.sl hc.sl he.sl, fitB_s h.1.2 hl.bx hc.bx he.bx, fitB_s h.2 hl.hp hc.hp he.hp⟩

theorem clsL_s (pl : Nat → Pl) : ∀ (n : Nat) (x y : List DC), Chg x (clsL pl n x y).2 ∧ ∀ p, EL x p → EL (clsL pl n x y).2 p
  | _, [], _ => ⟨trivial, fun _ h => h⟩
  | _, _ :: _, [] => ⟨Chg.refl _, fun _ h => h⟩
  | n, x :: a, y :: b => by
    obtain ⟨h1, h2⟩ := clsL_s pl (n + 1) a b
    simp only [clsL]
    cases hr : clsL pl (n + 1) a b with
    | mk H l =>
      rw [hr] at h1 h2
      cases cls x.v y with
      | left => exact ⟨⟨.inr rfl, h1⟩, fun p h => by cases p with | nil => exact h | cons q p => exact ⟨h.1, h2 p h.2⟩⟩
      | hole t => exact ⟨⟨.inl rfl, h1⟩, fun p h => by cases p with | nil => exact h | cons q p => exact ⟨.inl rfl, h2 p h.2⟩⟩
      | kill => exact ⟨⟨.inl rfl, h1⟩, fun p h => by cases p with | nil => exact h | cons q p => exact ⟨.inl rfl, h2 p h.2⟩⟩
theorem clsB_s (pl : Nat → Nat → Pl) : ∀ (n : Nat) (x y : List (List DC)), ChgB x (clsB pl n x y).2 ∧ ∀ p, EB x p → EB (clsB pl n x y).2 p
  | _, [], _ => ⟨trivial, fun _ h => h⟩
  | _, _ :: _, [] => ⟨ChgB.refl _, fun _ h => h⟩
  | n, x :: a, y :: b => by
    obtain ⟨h1, h2⟩ := clsB_s pl (n + 1) a b
    simp only [clsB]
    cases hr : clsB pl (n + 1) a b with
    | mk H l =>
      rw [hr] at h1 h2
      simp only
      split
      · obtain ⟨h3, h4⟩ := clsL_s (pl n) 0 x y
        cases hc : clsL (pl n) 0 x y with
        | mk H' x' =>
          rw [hc] at h3 h4
          exact ⟨⟨h3, h1⟩, fun p h => by
            cases p with
            | nil => exact h
            | cons q p => exact ⟨h.1.elim (fun e => by subst e; cases y <;> (simp only [clsL] at hc; simp only [Prod.mk.injEq] at hc; exact .inl hc.2.symm)) fun h => .inr (h4 q h), h2 p h.2⟩⟩
      · exact ⟨⟨by cases x <;> trivial, h1⟩, fun p h => by cases p with | nil => exact h | cons q p => exact ⟨.inl rfl, h2 p h.2⟩⟩
theorem clsS_s (x y : DS) : ChgS x (clsS x y).2 ∧ ∀ s, ES x s → ES (clsS x y).2 s := by
  obtain ⟨h1, h2⟩ := clsL_s .s 0 x.sl y.sl
  obtain ⟨h3, h4⟩ := clsB_s .b 0 x.bx y.bx
  obtain ⟨h5, h6⟩ := clsB_s .h 0 x.hp y.hp
  exact ⟨⟨h1, h3, h5⟩, fun s h => ⟨h2 _ h.sl, h4 _ h.bx, h6 _ h.hp⟩⟩
theorem dhead_s {live : List Nat} {body : DS → DT} {A : DS} : ∀ {n : Nat} {cur : DS} {H : List Hole} {K : DS}, dhead live body A n cur = some (H, K) → ∃ Y, clsS A Y = (H, K)
  | 0, cur, H, K, h => by
    simp only [dhead] at h
    split at h
    · rename_i m _
      exact ⟨_, Option.some.inj h⟩
    · cases h
  | n + 1, cur, H, K, h => by
    simp only [dhead] at h
    split at h
    · split at h
      · exact dhead_s h
      · cases h
    · cases h
theorem keepS_chg (live : List Nat) (d : DS) : ChgS d (keepS live d) := ⟨Chg.keep _ _ _, ChgB.refl _, ChgB.refl _⟩
theorem trimS_chg (live : List Nat) (d : DS) : ChgS d (trimS live d) := ⟨Chg.trim _ _ _, ChgB.refl _, ChgB.refl _⟩

/-- A LOOP. -/
theorem dloop_s {live : List Nat} {n : Nat} {body : DS → DT} {pb : PKont → PS → Prop} (hall : ∀ d, (body d).All (ChgS d.clean))
    (hb : ∀ d s e d' (k : PKont), ES d s → (body d).ok.den → (body d).lf = some (e, d') → (∀ s', ES d' s' → k e s') → pb k s)
    {d d' : DS} {s : PS} {e : AExit} {k : PKont} (hs : ES d s) (hok : (dloop live n body d).ok.den) (hl : (dloop live n body d).lf = some (e, d')) (hk : ∀ s', ES d' s' → k e s') : ∃ n, piter pb live k n s := by
  have hA : ES (keepS live d) { s with sl := pkeep live 0 s.sl } := hs.keep live
  unfold dloop at hok hl
  split at hok
  · rename_i hn
    rw [if_pos hn] at hl
    rw [DT.map_ok] at hok
    rw [DT.map_lf] at hl
    obtain ⟨e0, d0, h0⟩ := DT.ok_lf hok
    rw [h0] at hl
    simp only [Option.map_some, Option.some.injEq, Prod.mk.injEq] at hl
    obtain ⟨rfl, rfl⟩ := hl
    have hn : (body (keepS live d)).norm = .none := by cases h : (body (keepS live d)).norm <;> rw [h] at hn <;> first | rfl | cases hn
    have he := DT.norm_none hn h0
    refine ⟨1, hb _ _ _ _ _ hA hok h0 fun s' hs' => ?_⟩
    cases e0 <;> first | (cases he; done) | exact hk _ hs'.rem
  · rename_i hn
    rw [if_neg hn] at hl
    split at hok
    · exact hok.elim
    · rename_i H K hd
      rw [hd] at hl
      simp only at hl
      obtain ⟨Y, hY⟩ := dhead_s hd
      split at hok
      · exact hok.elim
      · rename_i x0 hx0
        rw [hx0] at hl
        simp only at hl
        split at hok
        · rename_i hh
          rw [if_pos hh] at hl
          simp only [DT.ok, PX.land_den, PX.den] at hok
          obtain ⟨hlo, _⟩ := hok
          simp only [DT.lf] at hl
          have hK : ES K { s with sl := pkeep live 0 s.sl } := by
            have := (clsS_s (keepS live d) Y).2 _ hA
            rw [hY] at this; exact this
          have h0 : ES (wrX K H x0) { s with sl := pkeep live 0 s.sl } := wr_rd hA H hK hx0
          have hto := hlo.to
          have hle : ∀ x, LeS K (wrX K H x) := fun x => LeS.wrX H x ⟨LeC.refl _, LeB.refl _, LeB.refl _⟩ hh
          have main : ∀ {x y : HoX H}, LoopTo (lcond body K H) (lnext live body K H) (fun x => (lgood live body K H x).den) x y →
              ((lT body K H y).drop.map (remS (wrX K H y))).lf = some (e, d') →
              ∃ n, ∀ s : PS, ES (wrX K H x) { s with sl := pkeep live 0 s.sl } → piter pb live k n s := by
            intro x y h
            induction h with
            | stop hg hc =>
              rename_i x
              intro hl
              have hg := ((PX.land_den _ _).mp hg).1
              obtain ⟨e0, d0, h0⟩ := DT.ok_lf hg
              have he : e0.isN = false := by
                unfold lcond at hc
                cases hcc : (lT body K H x).cont with
                | none => rw [DT.cont_none hcc] at h0; cases h0
                | some b => rw [hcc] at hc; rw [← DT.cont_s hcc h0]; exact hc
              rw [DT.map_lf, DT.drop_lf h0 he] at hl
              simp only [Option.map_some, Option.some.injEq, Prod.mk.injEq] at hl
              obtain ⟨rfl, rfl⟩ := hl
              refine ⟨1, fun s hs => hb _ _ _ _ _ hs hg h0 fun s' hs' => ?_⟩
              cases e0 <;> first | (cases he; done) | exact hk _ hs'.rem
            | go hg hc h3 ih =>
              rename_i x y'
              intro hl
              obtain ⟨n, ih⟩ := ih hl
              have hg2 := (PX.land_den _ _).mp hg
              obtain ⟨e0, d0, h0⟩ := DT.ok_lf hg2.1
              have he : e0 = .normal := by
                unfold lcond at hc
                cases hcc : (lT body K H x).cont with
                | none => rw [DT.cont_none hcc] at h0; cases h0
                | some b =>
                  rw [hcc] at hc
                  have := DT.cont_s hcc h0
                  rw [show b.b = true from hc] at this
                  cases e0 <;> first | rfl | cases this
              subst he
              refine ⟨n + 1, fun s hs => hb _ _ _ _ _ hs hg2.1 h0 fun s' hs' => ?_⟩
              refine ih s' ?_
              have hg3 := hg2.2
              cases hnm : (lT body K H x).norm with
              | none => have := DT.norm_none hnm h0; cases this
              | fail => rw [hnm] at hg3; exact hg3.elim
              | some m =>
                rw [hnm] at hg3
                simp only at hg3
                split at hg3
                · rename_i hf
                  simp only [Bool.and_eq_true] at hf
                  obtain ⟨hf1, hf2⟩ := hf
                  have hm : ES m s' := DT.norm_s (hall _) hnm h0 hs'
                  have hm2 := hm.keep live
                  have hch : ChgS (wrX K H x).clean (keepS live m) := (DT.norm_chg (hall _) hnm).trans (keepS_chg live m)
                  have hK' := fitS_s hf1 (hle x) hch hm2
                  obtain ⟨y2, hy2⟩ := Option.isSome_iff_exists.mp hf2
                  have hnx : lnext live body K H x = y2 := by unfold lnext; rw [hnm]; simp only [hy2]
                  rw [hnx]
                  exact wr_rd hm2 H hK' hy2
                · exact hg3.elim
          obtain ⟨n, hn⟩ := main hto hl
          exact ⟨n, hn s h0⟩
        · exact hok.elim
theorem dloop_all {live : List Nat} {n : Nat} {body : DS → DT} (hall : ∀ d, (body d).All (ChgS d.clean)) (d : DS) : (dloop live n body d).All (ChgS d) := by
  unfold dloop
  split
  · exact DT.map_all (fun st h => (keepS_chg live d).trans h.rem) (hall _)
  · split
    · trivial
    · rename_i H K hd
      obtain ⟨Y, hY⟩ := dhead_s hd
      split
      · trivial
      · split
        · have hK : ChgS d K := by
            have := (clsS_s (keepS live d) Y).1
            rw [hY] at this; exact (keepS_chg live d).trans this
          exact DT.map_all (fun st h => (hK.trans (wrX_chg H K _)).trans h.rem) (DT.drop_all (hall _))
        · trivial
end Go.Ag

namespace Go.Ag
set_option linter.unusedSimpArgs false
set_option linter.unusedVariables false

theorem setc_chg (d : DS) (c : Opnd) (t : Bool) : ChgS d (setc d c t) := by
  cases c with
  | t g => exact setg_chg d g t
  | c v => exact ChgS.refl d
theorem setc_ES {d : DS} {s : PS} {c : Opnd} {b : Bool} (hs : ES d s) (h : c.pev s.sl = .fl (.bool b)) : ES (setc d c b) s := by
  cases c with
  | t g => exact setg_ES hs h
  | c v => exact hs
theorem dev_all : ∀ (c : DCode) (d : DS), (dev c d).All (ChgS d)
  | .skip, d => ChgS.refl d
  | .region ops, d => dops_all ops d (ChgS.refl d)
  | .seq l a b, d => by
    refine DT.then_all (dev_all a d.clean) (fun st h => ?_) (fun st h => h.rem)
    have h1 : ChgS d (remS d (trimS l st)) := (h.trans (trimS_chg l st)).rem
    exact DT.All.imp (fun _ h2 => h1.trans h2) (dev_all b _)
  | .cond c a b, d => by
    simp only [dev]
    cases hc : c.dev d.sl with
    | bool t =>
      cases t with
      | lit t => cases t <;> first | exact dev_all a d | exact dev_all b d
      | dyn t => exact ⟨DT.All.imp (fun _ h => (setc_chg d c true).trans h) (dev_all a _), DT.All.imp (fun _ h => (setc_chg d c false).trans h) (dev_all b _)⟩
    | _ => trivial
  | .block i a, d => DT.unexit_all i (dev_all a d)
  | .loop live n a, d => dloop_all (fun d => dev_all a d.clean) d
  | .exit i, d => ChgS.refl d
  | .ret, d => ChgS.refl d

theorem er_ops (ops : List DOper) : (DCode.region ops).er = .region (ops.map fun o => o.er) := rfl
theorem dev_s : ∀ (c : DCode), AllD c.obs → ∀ {d d' : DS} {s : PS} {e : AExit} {k : PKont}, ES d s → (dev c d).ok.den → (dev c d).lf = some (e, d') → (∀ s', ES d' s' → k e s') → pwp c.er k s
  | .skip, _, d, d', s, e, k, hs, hok, hl, hk => by
    simp only [dev, DT.lf, Option.some.injEq, Prod.mk.injEq] at hl
    obtain ⟨rfl, rfl⟩ := hl
    exact hk s hs
  | .region ops, ho, d, d', s, e, k, hs, hok, hl, hk => by
    have he := dops_n ops hl
    subst he
    exact dops_s ops ho rfl hk d s hs hok hl
  | .seq l a b, ho, d, d', s, e, k, hs, hok, hl, hk => by
    obtain ⟨h1, h2⟩ := ho.app
    obtain ⟨hoa, hc⟩ := DT.then_s (dev_all a d.clean) hok hl
    simp only [DCode.er, pwp]
    rcases hc with ⟨st0, m, hla, hm, hch, hob, hlb⟩ | ⟨he, st0, hla, rfl⟩
    · refine dev_s a h1 hs.clean hoa hla fun s' hs' => ?_
      exact dev_s b h2 (((hm s' hs').trim l).rem) hob hlb hk
    · refine dev_s a h1 hs.clean hoa hla fun s' hs' => ?_
      cases e <;> first | (cases he; done) | exact hk s' hs'.rem
  | .cond c a b, ho, d, d', s, e, k, hs, hok, hl, hk => by
    obtain ⟨h1, h2⟩ := ho.app
    have hv := c.dev_ev hs
    simp only [dev] at hok hl
    simp only [DCode.er, pwp]
    cases hc : c.dev d.sl with
    | bool t =>
      rw [hc] at hok hl hv
      have hp := hv.of (by simp)
      simp only [DV.enc] at hp
      rw [hp]
      simp only
      cases t with
      | lit t =>
        cases t with
        | true => exact dev_s a h1 hs hok hl hk
        | false => exact dev_s b h2 hs hok hl hk
      | dyn t =>
        have hok := (PX.if_den _ _ _).mp hok
        cases t with
        | true => exact dev_s a h1 (setc_ES hs hp) (hok.1 rfl) hl hk
        | false => exact dev_s b h2 (setc_ES hs hp) (hok.2 rfl) hl hk
    | _ => rw [hc] at hok; exact hok.elim
  | .block i a, ho, d, d', s, e, k, hs, hok, hl, hk => by
    simp only [dev, DT.unexit_ok, DT.unexit_lf] at hok hl
    obtain ⟨e0, d0, h0⟩ := DT.ok_lf hok
    rw [h0] at hl
    simp only [Option.map_some, Option.some.injEq, Prod.mk.injEq] at hl
    obtain ⟨rfl, rfl⟩ := hl
    refine dev_s a ho hs hok h0 fun s' hs' => ?_
    have := hk s' hs'
    cases e0 with
    | normal => exact this
    | ret => exact this
    | exit j =>
      simp only [pblockK]
      simp only [AExit.un] at this
      split
      · rename_i hj; rw [if_pos hj] at this; exact this
      · rename_i hj; rw [if_neg hj] at this; exact this
  | .loop live n a, ho, d, d', s, e, k, hs, hok, hl, hk => by
    simp only [dev] at hok hl
    exact dloop_s (fun d => dev_all a d.clean) (fun d s e d' k hs hok hl hk => dev_s a ho hs.clean hok hl hk) hs hok hl hk
  | .exit i, _, d, d', s, e, k, hs, hok, hl, hk => by
    simp only [dev, DT.lf, Option.some.injEq, Prod.mk.injEq] at hl
    obtain ⟨rfl, rfl⟩ := hl
    exact hk s hs
  | .ret, _, d, d', s, e, k, hs, hok, hl, hk => by
    simp only [dev, DT.lf, Option.some.injEq, Prod.mk.injEq] at hl
    obtain ⟨rfl, rfl⟩ := hl
    exact hk s hs
end Go.Ag

namespace Go.Ag
set_option linter.unusedSimpArgs false
set_option linter.unusedVariables false

mutual
/-- It refers to no memory. -/
def DV.flt : DV → Bool
  | .bool _ | .int _ _ | .str _ | .ifc _ => true
  | .agg cs => DV.fltL cs
  | .tup vs => DV.fltL vs
  | _ => false
def DV.fltL : List DV → Bool
  | [] => true
  | v :: r => v.flt && DV.fltL r
end
mutual
theorem flt_enc : ∀ (v : DV), v.flt = true → v.enc.flt = true
  | .bool _, _ | .int _ _, _ | .str _, _ | .ifc _, _ => rfl
  | .agg cs, h => fltL_enc cs h
  | .tup cs, h => fltL_enc cs h
theorem fltL_enc : ∀ (l : List DV), DV.fltL l = true → PV.fltL (DV.encL l) = true
  | [], _ => rfl
  | v :: r, h => by
    simp only [DV.fltL, Bool.and_eq_true] at h
    simp only [DV.encL, PV.fltL, flt_enc v h.1, fltL_enc r h.2, Bool.and_self]
end
theorem retL_okL : ∀ (l : List DV), dretL l = true → DV.okL l = true
  | [], _ => rfl
  | v :: r, h => by
    simp only [dretL, Bool.and_eq_true] at h
    have : v.ok = true := by cases v <;> first | rfl | (have := h.1; cases this)
    simp only [DV.okL, this, retL_okL r h.2, Bool.and_self]
theorem EBx.segm2 {a : List DC} {b : List PV} {o n : Nat} (h : EBx a b) (hl : o + n ≤ a.length) (hk : DV.okL (vsegm (vals a) o n) = true) : Go.Ag.segm b o n = DV.encL (vsegm (vals a) o n) ∧ o + n ≤ b.length := by
  rcases h with rfl | h
  · simp only [List.length_nil, Nat.le_zero_eq, Nat.add_eq_zero_iff] at hl
    obtain ⟨rfl, rfl⟩ := hl
    refine ⟨?_, Nat.zero_le _⟩
    cases b <;> rfl
  · exact ⟨h.segm o n hk, by rw [← h.len]; exact hl⟩
theorem dresOf_s {st st' : DS} {s : PS} {r : ARes} {v : DV} (hs : ES st s) (h : dresOf st r = some (v, st')) (hv : v.ok = true) : ∃ s', presOf s r = some (v.enc, s') ∧ ES st' s' := by
  cases r with
  | tmp t =>
    simp only [dresOf] at h
    split at h
    · rename_i hc
      simp only [Bool.and_eq_true] at hc
      simp only [Option.some.injEq] at h
      have hk : (dmvOut (.t t) st).1.ok = true := by
        have : (dmvOut (.t t) st).1 = v := by simp only [dmvOut, h]
        rw [this]; exact hv
      obtain ⟨m1, m2⟩ := mvOut_sound (.t t) hs hk
      have hne : dget st.sl t ≠ .any := by intro e; rw [e] at hc; cases hc.2
      have hp := (hs.sl.get t).of hne
      simp only [dmvOut, h, mvOut] at m1 m2
      refine ⟨(mvS (pget s.sl t) t s).2, ?_, m2⟩
      simp only [presOf]
      rw [if_pos (by rw [hp]; exact retok_enc _ hc.1), ← m1]
    · cases h
  | cell t n =>
    simp only [dresOf] at h
    have hp := hs.sl.get t
    cases hv : dget st.sl t with
    | box i o =>
      rw [hv] at h hp
      have hp := hp.of (by simp)
      simp only at h
      split at h
      · rename_i hc
        simp only [Bool.and_eq_true] at hc
        simp only [Option.map_eq_some_iff] at h
        obtain ⟨⟨g, r⟩, h1, h2⟩ := h
        simp only at h2
        subst h2
        obtain ⟨e1, e2⟩ := (hs.bx.get i).segm2 (Nat.le_of_ble_eq_true hc.1) (retL_okL _ hc.2)
        have hg : g = .tt := by
          unfold dloadB at h1
          simp only [if_true] at h1
          split at h1
          · simp only [Option.map_eq_some_iff, Prod.mk.injEq] at h1
            obtain ⟨_, _, rfl, _⟩ := h1; rfl
          · cases h1
        subst hg
        obtain ⟨s', e3, e4⟩ := dloadB_sound (p := .box i o) hs (.inr rfl) h1
        refine ⟨s', ?_, e4⟩
        simp only [presOf, hp, DV.enc]
        rw [if_pos ⟨e2, by rw [e1]; exact retL_enc _ hc.2⟩]
        exact e3
      · cases h
    | ptr i o =>
      rw [hv] at h hp
      have hp := hp.of (by simp)
      simp only at h
      split at h
      · rename_i hc
        simp only [Bool.and_eq_true] at hc
        simp only [Option.map_eq_some_iff] at h
        obtain ⟨⟨g, r⟩, h1, h2⟩ := h
        simp only at h2
        subst h2
        obtain ⟨e1, e2⟩ := (hs.hp.get i).segm2 (Nat.le_of_ble_eq_true hc.1) (retL_okL _ hc.2)
        have hg : g = .tt ∧ i < st.hp.length := by
          unfold dloadH at h1
          simp only [if_true] at h1
          split at h1
          · rename_i hb
            simp only [Bool.and_eq_true] at hb
            simp only [Option.map_eq_some_iff, Prod.mk.injEq] at h1
            obtain ⟨_, _, rfl, _⟩ := h1
            exact ⟨rfl, Nat.le_of_ble_eq_true hb.1.1⟩
          · cases h1
        obtain ⟨rfl, hi⟩ := hg
        obtain ⟨s', e3, e4⟩ := dloadH_sound (p := .ptr i o) hs (.inr rfl) h1 trivial
        refine ⟨s', ?_, e4⟩
        simp only [presOf, hp, DV.enc]
        rw [if_pos ⟨by rw [← hs.hp.len]; exact hi, e2, by rw [e1]; exact retL_enc _ hc.2⟩]
        exact e3
      · cases h
    | _ => rw [hv] at h; cases h
theorem dresAll_s : ∀ {res : List ARes} {st st' : DS} {s : PS} {vs : List DV}, ES st s → dresAll st res = some (vs, st') → DV.okL vs = true → ∃ s', presAll s res = some (DV.encL vs, s') ∧ ES st' s'
  | [], st, st', s, vs, hs, h, _ => by
    simp only [dresAll, Option.some.injEq, Prod.mk.injEq] at h
    obtain ⟨rfl, rfl⟩ := h
    exact ⟨s, rfl, hs⟩
  | r :: rs, st, st', s, vs, hs, h, hk => by
    simp only [dresAll] at h
    split at h
    · rename_i v st1 h1
      split at h
      · rename_i vs1 st2 h2
        simp only [Option.some.injEq, Prod.mk.injEq] at h
        obtain ⟨rfl, rfl⟩ := h
        simp only [DV.okL, Bool.and_eq_true] at hk
        obtain ⟨s1, e1, e2⟩ := dresOf_s hs h1 hk.1
        obtain ⟨s2, e3, e4⟩ := dresAll_s e2 h2 hk.2
        exact ⟨s2, by simp only [presAll, e1, e3, DV.encL], e4⟩
      · cases h
    · cases h
theorem dresV_s : ∀ {res : List ARes} {st : DS} {s : PS} {v : DV}, ES st s → dresV st res = some v → v.ok = true → ∃ s', presV s res = some (v.enc, s') := by
  have gen : ∀ {res : List ARes} {st : DS} {s : PS} {v : DV}, ES st s → v.ok = true → (dresAll st res).map (fun x => DV.tup x.1) = some v → ∃ s', (presAll s res).map (fun (vs, st) => (PV.tup vs, st)) = some (v.enc, s') := fun hs hv h => by
    simp only [Option.map_eq_some_iff] at h
    obtain ⟨⟨vs, st'⟩, h1, rfl⟩ := h
    obtain ⟨s', e1, _⟩ := dresAll_s hs h1 hv
    exact ⟨s', by rw [e1]; rfl⟩
  intro res st s v hs h hv
  cases res with
  | nil => exact gen (res := []) hs hv h
  | cons r rs =>
    cases rs with
    | nil =>
      simp only [dresV, Option.map_eq_some_iff] at h
      obtain ⟨⟨v', st'⟩, h1, rfl⟩ := h
      obtain ⟨s', e1, _⟩ := dresOf_s hs h1 hv
      exact ⟨s', e1⟩
    | cons r2 rs => exact gen (res := r :: r2 :: rs) hs hv h
theorem val_s {res : List ARes} : ∀ {t : DT} {g : PX} {v : DV}, t.val res = (g, some v) → v ≠ .any → g.den →
    t.ok.den ∧ ∃ e st v0, t.lf = some (e, st) ∧ (∀ i, e ≠ .exit i) ∧ dresV st res = some v0 ∧ v0.ok = true ∧ v.enc = v0.enc
  | .leaf e st, g, v, h, hv, hg => by
    have gen : (match dresV st res with | some v => if (v.ok && !v.hasPtr) = true then (PX.tt, some v) else (PX.ff, none) | none => (PX.ff, none)) = (g, some v) → dresV st res = some v ∧ v.ok = true := fun h => by
      split at h
      · split at h
        · rename_i h1 h2
          simp only [Prod.mk.injEq, Option.some.injEq] at h
          obtain ⟨_, rfl⟩ := h
          simp only [Bool.and_eq_true] at h2
          exact ⟨h1, h2.1⟩
        · simp at h
      · simp at h
    cases e with
    | exit i => simp [DT.val] at h
    | normal => obtain ⟨h1, h2⟩ := gen h; exact ⟨trivial, .normal, st, v, rfl, by simp, h1, h2, rfl⟩
    | ret => obtain ⟨h1, h2⟩ := gen h; exact ⟨trivial, .ret, st, v, rfl, by simp, h1, h2, rfl⟩
  | .node c a b, g, v, h, hv, hg => by
    simp only [DT.val] at h
    have hno : ∀ {t : DT} {g : PX}, t.val res = (g, none) → ¬ g.den := by
      intro t
      induction t with
      | leaf e st =>
        intro g h
        cases e <;> simp only [DT.val] at h <;> (repeat' split at h) <;> simp only [Prod.mk.injEq, reduceCtorEq, and_false, and_true] at h <;> subst h <;> exact id
      | node c x y ih1 ih2 =>
        intro g h hg
        simp only [DT.val] at h
        cases h1 : x.val res with
        | mk g1 v1 =>
          cases h2 : y.val res with
          | mk g2 v2 =>
            rw [h1, h2] at h
            cases v1 with
            | none =>
              simp only [Prod.mk.injEq] at h
              obtain ⟨rfl, rfl⟩ := h
              have := (PX.if_den _ _ _).mp hg
              cases c with
              | true => exact ih1 h1 (this.1 rfl)
              | false => exact ih2 h2 (this.2 rfl)
            | some v1 => cases v2 <;> simp at h
      | chk g0 t ih =>
        intro g h hg
        simp only [DT.val] at h
        cases h1 : t.val res with
        | mk g1 v1 =>
          rw [h1] at h
          simp only [Prod.mk.injEq] at h
          obtain ⟨rfl, rfl⟩ := h
          exact ih h1 ((PX.land_den _ _).mp hg).2
      | bad =>
        intro g h
        simp only [DT.val, Prod.mk.injEq, and_true] at h
        subst h; exact id
    cases h1 : a.val res with
    | mk g1 v1 =>
      cases h2 : b.val res with
      | mk g2 v2 =>
        rw [h1, h2] at h
        have fin : ∀ (v1 v2 : DV), g = PX.if' c g1 g2 → a.val res = (g1, some v1) → b.val res = (g2, some v2) → v = mrgV c v1 v2 → (DT.node c a b).ok.den ∧ ∃ e st v0, (DT.node c a b).lf = some (e, st) ∧ (∀ i, e ≠ .exit i) ∧ dresV st res = some v0 ∧ v0.ok = true ∧ v.enc = v0.enc := by
          intro v1 v2 hgg h1 h2 hvv
          subst hgg
          have hg := (PX.if_den _ _ _).mp hg
          have he := (mrgV_s c v1 v2).resolve_left (by rw [← hvv]; exact hv)
          rw [← hvv] at he
          have n1 : v1 ≠ .any := by rintro rfl; apply hv; rw [hvv]; cases v2 <;> rfl
          have n2 : v2 ≠ .any := by rintro rfl; apply hv; rw [hvv]; cases v1 <;> rfl
          show (PX.if' c a.ok b.ok).den ∧ ∃ e st v0, (DT.node c a b).lf = some (e, st) ∧ (∀ i, e ≠ .exit i) ∧ dresV st res = some v0 ∧ v0.ok = true ∧ v.enc = v0.enc
          rw [PX.if_den]
          cases c with
          | true =>
            obtain ⟨k1, e, st, v0, k2, k3, k4, k5, k6⟩ := val_s h1 n1 (hg.1 rfl)
            exact ⟨⟨fun _ => k1, fun h => by cases h⟩, e, st, v0, k2, k3, k4, k5, by rw [he]; exact k6⟩
          | false =>
            obtain ⟨k1, e, st, v0, k2, k3, k4, k5, k6⟩ := val_s h2 n2 (hg.2 rfl)
            exact ⟨⟨fun h => (by cases h), fun _ => k1⟩, e, st, v0, k2, k3, k4, k5, by rw [he]; exact k6⟩
        cases v1 with
        | none =>
          simp only [Prod.mk.injEq] at h
          obtain ⟨rfl, rfl⟩ := h
          have hg := (PX.if_den _ _ _).mp hg
          show (PX.if' c a.ok b.ok).den ∧ _
          rw [PX.if_den]
          cases c with
          | true => exact absurd (hg.1 rfl) (hno h1)
          | false =>
            obtain ⟨k1, e, st, v0, k2, k3, k4, k5, k6⟩ := val_s h2 hv (hg.2 rfl)
            exact ⟨⟨fun h => (by cases h), fun _ => k1⟩, e, st, v0, k2, k3, k4, k5, k6⟩
        | some v1 =>
          cases v2 with
          | none =>
            simp only [Prod.mk.injEq, Option.some.injEq] at h
            obtain ⟨rfl, rfl⟩ := h
            have hg := (PX.if_den _ _ _).mp hg
            show (PX.if' c a.ok b.ok).den ∧ _
            rw [PX.if_den]
            cases c with
            | false => exact absurd (hg.2 rfl) (hno h2)
            | true =>
              obtain ⟨k1, e, st, v0, k2, k3, k4, k5, k6⟩ := val_s h1 hv (hg.1 rfl)
              exact ⟨⟨fun _ => k1, fun h => by cases h⟩, e, st, v0, k2, k3, k4, k5, k6⟩
          | some v2 =>
            simp only [Prod.mk.injEq, Option.some.injEq] at h
            exact fin v1 v2 h.1.symm h1 h2 h.2.symm
  | .chk g0 t, g, v, h, hv, hg => by
    simp only [DT.val] at h
    cases h1 : t.val res with
    | mk g1 v1 =>
      rw [h1] at h
      simp only [Prod.mk.injEq] at h
      obtain ⟨rfl, rfl⟩ := h
      have hg := (PX.land_den _ _).mp hg
      obtain ⟨k1, k2⟩ := val_s h1 hv hg.2
      exact ⟨(PX.land_den _ _).mpr ⟨hg.1, k1⟩, k2⟩
  | .bad, g, v, h, hv, hg => by simp [DT.val] at h

theorem EL.append : ∀ {a : List DC} {b : List PV} {c : List DC} {d : List PV}, EL a b → EL c d → EL (a ++ c) (b ++ d)
  | [], [], _, _, _, h => h
  | _ :: _, _ :: _, _, _, h, h' => ⟨h.1, EL.append h.2 h'⟩
theorem slots_EL : ∀ (n : Nat), EL (dslots n) (preps n)
  | 0 => trivial
  | n + 1 => ⟨.inl rfl, slots_EL n⟩
theorem boxes_EB : ∀ (n : Nat), EB (dboxes n) (prepb n)
  | 0 => trivial
  | n + 1 => ⟨.inl rfl, boxes_EB n⟩
/-- A FUNCTION. -/
theorem dfun_sound {f : DFun} (ho : AllD f.body.obs) {args : List DV} {g : PX} {v : DV} (h : dfun f args = (g, some v)) (hg : g.den) (hv : v ≠ .any) (hl : args.length = f.nparams) (hp : f.pure = true → v.flt = true)
    {Q : PV → List (List PV) → Prop} (hQ : ∀ H, Q v.enc H) : pfunSem f.er (DV.encL args) [] Q := by
  unfold dfun at h
  obtain ⟨hok, e, st, v0, h1, h2, h3, h4, h5⟩ := val_s h hv hg
  refine ⟨by rw [encL_len]; exact hl, fun _ => rfl, ?_⟩
  refine dev_s f.body ho (d := ⟨news args ++ dslots (f.nslots - f.nparams), dboxes f.nbox, []⟩) ⟨(EL.news args).append (slots_EL _), boxes_EB _, trivial⟩ hok h1 fun s' hs' => ?_
  obtain ⟨s2, e2⟩ := dresV_s hs' h3 h4
  rw [← h5] at e2
  have fin : (match presV s' f.res with | some (v, st) => if f.pure = true then v.flt = true ∧ Q v [] else Q v st.hp | none => False) := by
    rw [e2]
    simp only
    split
    · rename_i hpu
      exact ⟨flt_enc v (hp hpu), hQ _⟩
    · exact hQ _
  cases e with
  | normal => exact fin
  | ret => exact fin
  | exit i => exact absurd rfl (h2 i)
end Go.Ag

namespace Go.Ag
set_option linter.unusedSimpArgs false
set_option linter.unusedVariables false

/-! ### Types of parameters, of results -/
def TuX : List HT → Type
  | [] => Unit
  | [a] => a.D
  | a :: r => a.D × TuX r
def tuOf : (l : List HT) → List DV → Option (TuX l)
  | [], [] => some ()
  | [a], [v] => a.of v
  | a :: b :: r, v :: vs => (match a.of v, tuOf (b :: r) vs with
    | some x, some y => some (x, y)
    | _, _ => none)
  | _, _ => none
def tuDv : (l : List HT) → TuX l → List DV
  | [], _ => []
  | [a], x => [a.dv x]
  | a :: b :: r, x => a.dv x.1 :: tuDv (b :: r) x.2
inductive QT where
  | one (h : HT) | tup (l : List HT)
def QT.D : QT → Type
  | .one h => h.D
  | .tup l => TuX l
def QT.of : (q : QT) → DV → Option q.D
  | .one h, v => h.of v
  | .tup l, .tup vs => tuOf l vs
  | .tup _, _ => none
def QT.dv : (q : QT) → q.D → DV
  | .one h, x => h.dv x
  | .tup l, x => .tup (tuDv l x)
def QT.ofO (q : QT) : Option DV → Option q.D
  | some v => q.of v
  | none => none
def agDflt : (l : List (Ql × CT)) → AgX l
  | [] => ()
  | [a] => a.2.dflt
  | a :: b :: r => (a.2.dflt, agDflt (b :: r))
def HT.dflt : (h : HT) → h.D
  | .one _ t => t.dflt
  | .agg l => agDflt l
def tuDflt : (l : List HT) → TuX l
  | [] => ()
  | [a] => a.dflt
  | a :: b :: r => (a.dflt, tuDflt (b :: r))
def QT.dflt : (q : QT) → q.D
  | .one h => h.dflt
  | .tup l => tuDflt l
def HT.flt : HT → Bool
  | .one _ t => t.flat
  | .agg l => l.all fun a => a.2.flat
def QT.flt : QT → Bool
  | .one h => h.flt
  | .tup l => l.all HT.flt

theorem tu_of : ∀ {l : List HT} {vs : List DV} {x : TuX l}, tuOf l vs = some x → DV.encL (tuDv l x) = DV.encL vs
  | [], [], _, _ => rfl
  | [a], [v], x, h => by
    show [(a.dv x).enc] = [v.enc]
    rw [(ht_of (t := a) h).1]
  | a :: b :: r, v :: vs, x, h => by
    have h' : (match a.of v, tuOf (b :: r) vs with | some x, some y => some (x, y) | _, _ => none) = some x := h
    clear h
    cases h1 : a.of v with
    | none => rw [h1] at h'; cases h'
    | some p =>
      cases h2 : tuOf (b :: r) vs with
      | none => rw [h1, h2] at h'; cases h'
      | some q =>
        rw [h1, h2] at h'
        have h' := Option.some.inj h'
        subst h'
        show (a.dv p).enc :: DV.encL (tuDv (b :: r) q) = v.enc :: DV.encL vs
        rw [(ht_of h1).1, tu_of h2]
theorem qt_of {q : QT} {v : DV} {x : q.D} (h : q.of v = some x) : (q.dv x).enc = v.enc ∧ v ≠ .any := by
  cases q with
  | one t => exact ht_of (t := t) h
  | tup l =>
    cases v <;> try (cases h; done)
    rename_i cs
    refine ⟨?_, by simp⟩
    show PV.tup _ = PV.tup _
    rw [tu_of (l := l) h]
theorem tuDv_len : ∀ (l : List HT) (x : TuX l), (tuDv l x).length = l.length
  | [], _ => rfl
  | [_], _ => rfl
  | a :: b :: r, x => by
    show (tuDv (b :: r) x.2).length + 1 = (b :: r).length + 1
    rw [tuDv_len (b :: r) x.2]
theorem ct_flt {q : Ql} {t : CT} {v : DV} {x : t.D} (hf : t.flat = true) (h : t.ofQ q v = some x) : v.flt = true := by
  cases t <;> first | (cases hf; done) | skip
  all_goals (cases v <;> first | rfl | (cases h; done))
theorem ag_flt : ∀ {l : List (Ql × CT)} {vs : List DV} {x : AgX l}, l.all (fun a => a.2.flat) = true → agOf l vs = some x → DV.fltL vs = true
  | [], [], _, _, _ => rfl
  | [a], [v], x, hf, h => by
    simp only [List.all_cons, List.all_nil, Bool.and_true] at hf
    simp only [DV.fltL, ct_flt (q := a.1) hf h, Bool.and_self]
  | a :: b :: r, v :: vs, x, hf, h => by
    have h' : (match a.2.ofQ a.1 v, agOf (b :: r) vs with | some x, some y => some (x, y) | _, _ => none) = some x := h
    clear h
    rw [List.all_cons, Bool.and_eq_true] at hf
    cases h1 : a.2.ofQ a.1 v with
    | none => rw [h1] at h'; cases h'
    | some p =>
      cases h2 : agOf (b :: r) vs with
      | none => rw [h1, h2] at h'; cases h'
      | some q => simp only [DV.fltL, ct_flt hf.1 h1, ag_flt hf.2 h2, Bool.and_self]
theorem ht_flt {t : HT} {v : DV} {x : t.D} (hf : t.flt = true) (h : t.of v = some x) : v.flt = true := by
  cases t with
  | one q t => exact ct_flt (q := q) (t := t) hf h
  | agg l =>
    cases v <;> try (cases h; done)
    exact ag_flt (l := l) hf h
theorem tu_flt : ∀ {l : List HT} {vs : List DV} {x : TuX l}, l.all HT.flt = true → tuOf l vs = some x → DV.fltL vs = true
  | [], [], _, _, _ => rfl
  | [a], [v], x, hf, h => by
    simp only [List.all_cons, List.all_nil, Bool.and_true] at hf
    simp only [DV.fltL, ht_flt (t := a) hf h, Bool.and_self]
  | a :: b :: r, v :: vs, x, hf, h => by
    have h' : (match a.of v, tuOf (b :: r) vs with | some x, some y => some (x, y) | _, _ => none) = some x := h
    clear h
    rw [List.all_cons, Bool.and_eq_true] at hf
    cases h1 : a.of v with
    | none => rw [h1] at h'; cases h'
    | some p =>
      cases h2 : tuOf (b :: r) vs with
      | none => rw [h1, h2] at h'; cases h'
      | some q => simp only [DV.fltL, ht_flt hf.1 h1, tu_flt hf.2 h2, Bool.and_self]
theorem qt_flt {q : QT} {v : DV} {x : q.D} (hf : q.flt = true) (h : q.of v = some x) : v.flt = true := by
  cases q with
  | one t => exact ht_flt (t := t) hf h
  | tup l =>
    cases v <;> try (cases h; done)
    exact tu_flt (l := l) hf h

/-! ### A function -/
/-- Its meaning over typed data. -/
def DSemOf (hs : List HT) (q : QT) (ok : TuX hs → Prop) (v : TuX hs → q.D) : DSem := fun args => match tuOf hs args with
  | some x => some (.p (ok x), q.dv (v x))
  | none => none
/-- The result as typed data, merged over all ends. -/
def DT.valQ (q : QT) (res : List ARes) : DT → PX × Option q.D
  | .leaf (.exit _) _ => (.ff, none)
  | .leaf _ st => (match dresV st res with
    | some v => if v.ok && !v.hasPtr then (match q.of v with
      | some y => (.tt, some y)
      | none => (.ff, none)) else (.ff, none)
    | none => (.ff, none))
  | .node c a b => (match a.valQ q res, b.valQ q res with
    | (g, none), (g', y) => (PX.if' c g g', y)
    | (g, x), (g', none) => (PX.if' c g g', x)
    | (g, some x), (g', some y) => (PX.if' c g g', some (bSel c x y)))
  | .chk g t => (match t.valQ q res with
    | (g', v) => (g.land g', v))
  | .bad => (.ff, none)
theorem valQ_none {q : QT} {res : List ARes} : ∀ {t : DT} {g : PX}, t.valQ q res = (g, none) → ¬ g.den
  | .leaf e st, g, h => by
    cases e <;> simp only [DT.valQ] at h <;> (repeat' split at h) <;> simp only [Prod.mk.injEq, reduceCtorEq, and_false, and_true] at h <;> subst h <;> exact id
  | .node c x y, g, h => by
    intro hg
    simp only [DT.valQ] at h
    cases h1 : x.valQ q res with
    | mk g1 v1 =>
      cases h2 : y.valQ q res with
      | mk g2 v2 =>
        rw [h1, h2] at h
        cases v1 with
        | none =>
          simp only [Prod.mk.injEq] at h
          obtain ⟨rfl, rfl⟩ := h
          have := (PX.if_den _ _ _).mp hg
          cases c with
          | true => exact valQ_none h1 (this.1 rfl)
          | false => exact valQ_none h2 (this.2 rfl)
        | some v1 => cases v2 <;> simp at h
  | .chk g0 t, g, h => by
    intro hg
    simp only [DT.valQ] at h
    cases h1 : t.valQ q res with
    | mk g1 v1 =>
      rw [h1] at h
      simp only [Prod.mk.injEq] at h
      obtain ⟨rfl, rfl⟩ := h
      exact valQ_none h1 ((PX.land_den _ _).mp hg).2
  | .bad, g, h => by
    simp only [DT.valQ, Prod.mk.injEq, and_true] at h
    subst h; exact id
theorem valQ_s {q : QT} {res : List ARes} : ∀ {t : DT} {g : PX} {y : q.D}, t.valQ q res = (g, some y) → g.den →
    t.ok.den ∧ ∃ e st v0, t.lf = some (e, st) ∧ (∀ i, e ≠ .exit i) ∧ dresV st res = some v0 ∧ v0.ok = true ∧ q.of v0 = some y
  | .leaf e st, g, y, h, hg => by
    have gen : (match dresV st res with | some v => if (v.ok && !v.hasPtr) = true then (match q.of v with | some y => (PX.tt, some y) | none => (PX.ff, none)) else (PX.ff, none) | none => (PX.ff, none)) = (g, some y) → ∃ v, dresV st res = some v ∧ v.ok = true ∧ q.of v = some y := fun h => by
      split at h
      · rename_i v hv
        split at h
        · rename_i hc
          simp only [Bool.and_eq_true] at hc
          split at h
          · rename_i y' hy
            simp only [Prod.mk.injEq, Option.some.injEq] at h
            obtain ⟨_, rfl⟩ := h
            exact ⟨v, hv, hc.1, hy⟩
          · simp at h
        · simp at h
      · simp at h
    cases e with
    | exit i => simp [DT.valQ] at h
    | normal => obtain ⟨v, h1, h2, h3⟩ := gen h; exact ⟨trivial, .normal, st, v, rfl, by simp, h1, h2, h3⟩
    | ret => obtain ⟨v, h1, h2, h3⟩ := gen h; exact ⟨trivial, .ret, st, v, rfl, by simp, h1, h2, h3⟩
  | .node c a b, g, y, h, hg => by
    simp only [DT.valQ] at h
    show (PX.if' c a.ok b.ok).den ∧ ∃ e st v0, (DT.node c a b).lf = some (e, st) ∧ (∀ i, e ≠ .exit i) ∧ dresV st res = some v0 ∧ v0.ok = true ∧ q.of v0 = some y
    rw [PX.if_den]
    cases h1 : a.valQ q res with
    | mk g1 v1 =>
      cases h2 : b.valQ q res with
      | mk g2 v2 =>
        rw [h1, h2] at h
        have hgg : g = PX.if' c g1 g2 := by
          cases v1 <;> cases v2 <;> simp only [Prod.mk.injEq] at h <;> exact h.1.symm
        subst hgg
        have hg := (PX.if_den _ _ _).mp hg
        cases c with
        | true =>
          have : v1 = some y := by
            cases v1 with
            | none => exact absurd (hg.1 rfl) (valQ_none h1)
            | some v1 => cases v2 <;> simp only [Prod.mk.injEq, bSel_t] at h <;> exact h.2
          subst this
          obtain ⟨k1, k2⟩ := valQ_s h1 (hg.1 rfl)
          exact ⟨⟨fun _ => k1, fun h => by cases h⟩, k2⟩
        | false =>
          have : v2 = some y := by
            cases v2 with
            | none => exact absurd (hg.2 rfl) (valQ_none h2)
            | some v2 => cases v1 <;> simp only [Prod.mk.injEq, bSel_f] at h <;> exact h.2
          subst this
          obtain ⟨k1, k2⟩ := valQ_s h2 (hg.2 rfl)
          exact ⟨⟨fun h => (by cases h), fun _ => k1⟩, k2⟩
  | .chk g0 t, g, y, h, hg => by
    simp only [DT.valQ] at h
    cases h1 : t.valQ q res with
    | mk g1 v1 =>
      rw [h1] at h
      simp only [Prod.mk.injEq] at h
      obtain ⟨rfl, rfl⟩ := h
      have hg := (PX.land_den _ _).mp hg
      obtain ⟨k1, k2⟩ := valQ_s h1 hg.2
      exact ⟨(PX.land_den _ _).mpr ⟨hg.1, k1⟩, k2⟩
  | .bad, g, y, h, hg => by simp [DT.valQ] at h

def QT.isB : QT → Bool
  | .one (.one _ .bool) => true
  | _ => false
/-- What it returns, and when it is right. -/
noncomputable def fnR (f : DFun) (hs : List HT) (q : QT) (x : TuX hs) : PX × Option q.D :=
  if q.isB then ((dfun f (tuDv hs x)).1, q.ofO (dfun f (tuDv hs x)).2)
  else (dev f.body ⟨news (tuDv hs x) ++ dslots (f.nslots - f.nparams), dboxes f.nbox, []⟩).valQ q f.res
noncomputable def fnV (f : DFun) (hs : List HT) (q : QT) (x : TuX hs) : q.D := (fnR f hs q x).2.getD q.dflt
noncomputable def fnOk (f : DFun) (hs : List HT) (q : QT) (x : TuX hs) : Prop := (fnR f hs q x).1.den
/-- It can be read. -/
noncomputable def fnChk (f : DFun) (hs : List HT) (q : QT) (x : TuX hs) : Bool := (fnR f hs q x).2.isSome
def fnSt (f : DFun) (hs : List HT) (q : QT) : Bool := hs.length == f.nparams && (!f.pure || q.flt)

theorem fn_sound {f : DFun} {hs : List HT} {q : QT} (ho : AllD f.body.obs) (hst : fnSt f hs q = true) (x : TuX hs) (hc : fnChk f hs q x = true) (hok : fnOk f hs q x)
    {Q : PV → List (List PV) → Prop} (hQ : ∀ H, Q (q.dv (fnV f hs q x)).enc H) : pfunSem f.er (DV.encL (tuDv hs x)) [] Q := by
  simp only [fnSt, Bool.and_eq_true, beq_iff_eq, Bool.or_eq_true, Bool.not_eq_true'] at hst
  unfold fnChk at hc
  unfold fnV at hQ
  unfold fnOk at hok
  unfold fnR at hc hQ hok
  by_cases hb : q.isB = true
  · rw [if_pos hb] at hc hQ hok
    cases hd : dfun f (tuDv hs x) with
    | mk g o =>
      rw [hd] at hc hQ hok
      cases o with
      | none => cases hc
      | some w =>
        obtain ⟨y, hy⟩ := Option.isSome_iff_exists.mp hc
        rw [hy] at hQ
        have hy : q.of w = some y := hy
        obtain ⟨h1, h2⟩ := qt_of hy
        refine dfun_sound ho hd hok h2 (by rw [tuDv_len]; exact hst.1) (fun hp => qt_flt (by simpa [hp] using hst.2) hy) fun H => ?_
        have := hQ H
        rw [Option.getD_some, h1] at this
        exact this
  · rw [if_neg hb] at hc hQ hok
    cases hd : (dev f.body ⟨news (tuDv hs x) ++ dslots (f.nslots - f.nparams), dboxes f.nbox, []⟩).valQ q f.res with
    | mk g o =>
      rw [hd] at hc hQ hok
      cases o with
      | none => cases hc
      | some y =>
        simp only [Option.getD_some] at hQ
        obtain ⟨k1, e, st, v0, k2, k3, k4, k5, k6⟩ := valQ_s hd hok
        obtain ⟨h1, h2⟩ := qt_of k6
        refine ⟨by rw [encL_len, tuDv_len]; exact hst.1, fun _ => rfl, ?_⟩
        refine dev_s f.body ho (d := ⟨news (tuDv hs x) ++ dslots (f.nslots - f.nparams), dboxes f.nbox, []⟩) ⟨(EL.news _).append (slots_EL _), boxes_EB _, trivial⟩ k1 k2 fun s' hs' => ?_
        obtain ⟨s2, e2⟩ := dresV_s hs' k4 k5
        rw [← h1] at e2
        have fin : (match presV s' f.res with | some (v, st) => if f.pure = true then v.flt = true ∧ Q v [] else Q v st.hp | none => False) := by
          rw [e2]
          simp only
          split
          · rename_i hpu
            exact ⟨by rw [h1]; exact flt_enc _ (qt_flt (by simpa [hpu] using hst.2) k6), hQ _⟩
          · exact hQ _
        cases e with
        | normal => exact fin
        | ret => exact fin
        | exit i => exact absurd rfl (k3 i)
theorem soundD_of {f : DFun} {hs : List HT} {q : QT} (ho : AllD f.body.obs) (hst : fnSt f hs q = true) (hc : ∀ x, fnChk f hs q x = true) {ok : TuX hs → Prop} {v : TuX hs → q.D} (hok : ∀ x, ok x → fnOk f hs q x) (hv : ∀ x, fnV f hs q x = v x) :
    SoundD (pfunSem f.er) (DSemOf hs q ok v) := by
  intro args g w Q h hg hQ
  unfold DSemOf at h
  cases hx : tuOf hs args with
  | none => rw [hx] at h; cases h
  | some x =>
    rw [hx] at h
    simp only [Option.some.injEq, Prod.mk.injEq] at h
    obtain ⟨rfl, rfl⟩ := h
    rw [← tu_of hx]
    exact fn_sound ho hst x (hc x) (hok x hg) fun H => by rw [hv]; exact hQ H
attribute [irreducible] fnR fnV fnOk fnChk fnSt
end Go.Ag
