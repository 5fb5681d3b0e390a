/-
  A REGION THAT DRAWS ITS ORDER: whatever order is drawn, it comes to what one order comes to.
-/
import Derived.Test.YtimnnpimflgonaaAgSwap
import Derived.Test.YtimnnpimflgonaaAgRegion
namespace Go.Ag

def AOper.looks (o : AOper) : List Nat := o.op.uses ++ (match o.guard with | some (g, _) => [g] | none => [])
def notIn (d : Option Nat) (l : List Nat) : Bool := match d with | some d => !l.contains d | none => true
def dstsApart : Option Nat → Option Nat → Bool
  | some a, some b => a != b
  | _, _ => true
def boxApart : Option Nat → Option Nat → Bool
  | some a, some b => a != b
  | _, _ => true
def memOK (p q : AOp) : Bool :=
  !p.clearsBox && !q.clearsBox && !p.isCall &&
  (p.isPure || (p.isLoadB && boxApart p.readsBox q.writesBox) || (p.isReadH && (q.isPure || q.isLoadB || q.isReadH || q.isPush)) || q.isPure || (q.isLoadB && p.isPush && boxApart q.readsBox p.writesBox))
theorem memOK_right {p q : AOp} (h1 : p.clearsBox = false) (h2 : p.isCall = false) (h3 : q.isPure = true) (h4 : q.clearsBox = false) : memOK p q = true := by simp [memOK, h1, h2, h3, h4]
theorem memOK_left {p q : AOp} (h1 : p.clearsBox = false) (h2 : p.isCall = false) (h3 : p.isPure = true) (h4 : q.clearsBox = false) : memOK p q = true := by simp [memOK, h1, h2, h3, h4]
/-- p stands before q; q may be drawn first. -/
def swapOK (p q : AOper) : Bool := notIn p.dst q.looks && notIn q.dst p.looks && dstsApart p.dst q.dst && memOK p.op q.op

theorem put_comm (s : List V) (a b : Nat) (v u : V) (h : a ≠ b) : put (put s a v) b u = put (put s b u) a v := by
  induction s generalizing a b with
  | nil => rfl
  | cons x r ih =>
    cases a with
    | zero => cases b with
      | zero => exact absurd rfl h
      | succ b => rfl
    | succ a => cases b with
      | zero => rfl
      | succ b => simp only [put]; rw [ih a b (by omega)]
def putO (s : List V) (d : Option Nat) (v : V) : List V := match d with | some d => put s d v | none => s
theorem st_put (sl : List V) (bx : List (List V)) (hp : Heap) (d : Option Nat) (v : V) : St.put ⟨sl, bx, hp⟩ d v = ⟨putO sl d v, bx, hp⟩ := by cases d <;> rfl
theorem putO_comm (s : List V) (a b : Option Nat) (v u : V) (h : dstsApart a b = true) : putO (putO s a v) b u = putO (putO s b u) a v := by
  cases a with
  | none => rfl
  | some a => cases b with
    | none => rfl
    | some b => exact put_comm s a b v u (by simpa [dstsApart] using h)
theorem agree_putO {l : List Nat} {s : List V} {d : Option Nat} {v : V} (h : notIn d l = true) : Agree l s (putO s d v) := by
  cases d with
  | none => exact fun _ _ => rfl
  | some d =>
    intro t ht
    simp only [notIn, Bool.not_eq_true', List.contains_eq_mem, decide_eq_false_iff_not] at h
    exact get_put_other s d t v (fun e => h (e ▸ ht))
theorem Agree.symm {l : List Nat} {s s' : List V} (h : Agree l s s') : Agree l s' s := fun t ht => (h t ht).symm
theorem notIn_left {d : Option Nat} {a b : List Nat} (h : notIn d (a ++ b) = true) : notIn d a = true := by
  cases d with
  | none => rfl
  | some d => simp [notIn] at h ⊢; exact h.1
theorem notIn_right {d : Option Nat} {a b : List Nat} (h : notIn d (a ++ b) = true) : notIn d b = true := by
  cases d with
  | none => rfl
  | some d => simp [notIn] at h ⊢; exact h.2

theorem aop_call (f : CallSem) (args : List Opnd) (d : Option Nat) (k : St → Prop) (st : St) :
    aop (.call f args) d k st = ((args.map (·.ev st.sl)).all V.ok1 = true ∧ f (args.map (·.ev st.sl)) st.hp fun r h => k (St.put { st with hp := h } d r)) := rfl

/-- 'aop' of what is no call. -/
theorem aop_step {o : AOp} (hc : o.isCall = false) (hb : o.clearsBox = false) (d : Option Nat) (k : St → Prop) (sl : List V) (bx : List (List V)) (hp : Heap) :
    aop o d k ⟨sl, bx, hp⟩ = match stepV o ⟨sl, bx, hp⟩ with | some (v, bx, hp) => k ⟨putO sl d v, bx, hp⟩ | none => False := by
  have e : ∀ v bx hp, St.put { sl := o.clears sl, bx, hp } d v = ⟨putO sl d v, bx, hp⟩ := by
    intro v bx hp
    have : o.clears sl = sl := by cases o <;> first | rfl | simp [AOp.clearsBox] at hb
    rw [this, st_put]
  cases o <;> first | (simp [AOp.isCall] at hc; done) | (simp only [aop]; split <;> simp_all)

theorem aop_swap {p q : AOp} {dp dq : Option Nat} {k : St → Prop} {st : St} (hp1 : notIn dp q.uses = true) (hq1 : notIn dq p.uses = true) (hd : dstsApart dp dq = true) (hm : memOK p q = true)
    (h : aop p dp (aop q dq k) st) : aop q dq (aop p dp k) st := by
  obtain ⟨sl, bx, hp⟩ := st
  unfold memOK at hm
  simp only [Bool.and_eq_true, Bool.not_eq_true'] at hm
  obtain ⟨⟨⟨m1, m2⟩, m3⟩, m4⟩ := hm
  rw [aop_step m3 m1] at h
  split at h
  · rename_i v bx1 hpp1 he
    -- p again, behind q
    have again : ∀ u bx2 hp2, stepV p ⟨sl, bx2, hp2⟩ = some (v, bx2, hp2) → aop p dp k ⟨putO sl dq u, bx2, hp2⟩ = k ⟨putO (putO sl dp v) dq u, bx2, hp2⟩ := by
      intro u bx2 hp2 h2
      rw [aop_step m3 m1, stepV_agree (agree_putO hq1), h2, putO_comm _ _ _ _ _ hd]
    by_cases hcall : q.isCall = true
    · -- a call
      cases q <;> simp [AOp.isCall] at hcall
      rename_i f args
      have hr : bx1 = bx ∧ hpp1 = hp ∧ ∀ h', stepV p ⟨sl, bx, h'⟩ = some (v, bx, h') := by
        simp only [AOp.isPure, AOp.isReadH, AOp.isPush, AOp.isLoadB.eq_def (.call f args), Bool.or_false, Bool.false_and, Bool.and_false, Bool.or_eq_true, Bool.and_eq_true] at m4
        rcases m4 with m4 | ⟨m4, _⟩
        · obtain ⟨e1, e2, e3⟩ := pure_step m4 he
          exact ⟨e1, e2, fun h' => e3 _ _⟩
        · cases p <;> simp [AOp.isLoadB] at m4
          obtain ⟨e1, e2, e3⟩ := loadB_step he
          exact ⟨e1, e2, fun h' => e3 _ _ rfl⟩
      obtain ⟨rfl, rfl, h3⟩ := hr
      rw [aop_call] at h ⊢
      have ea : args.map (·.ev (putO sl dp v)) = args.map (·.ev sl) := args_agree args (agree_putO hp1)
      rw [ea] at h
      refine ⟨h.1, ?_⟩
      have e : (fun r h' => aop p dp k (St.put ⟨sl, bx1, h'⟩ dq r)) = (fun r h' => k (St.put ⟨putO sl dp v, bx1, h'⟩ dq r)) := by
        funext r h'
        rw [st_put, st_put, again r _ _ (h3 h')]
      rw [e]
      exact h.2
    · have hcall' : q.isCall = false := by simpa using hcall
      rw [aop_step hcall' m2] at h
      split at h
      · rename_i u bx2 hpp2 hu
        rw [stepV_agree (agree_putO hp1)] at hu
        rw [aop_step hcall' m2]
        have fin : ∀ {bx' hp'}, stepV q ⟨sl, bx, hp⟩ = some (u, bx', hp') → stepV p ⟨sl, bx', hp'⟩ = some (v, bx2, hpp2) → (match stepV q ⟨sl, bx, hp⟩ with | some (v, bx, hp) => aop p dp k ⟨putO sl dq v, bx, hp⟩ | none => False) := by
          intro bx' hp' e1 e2
          rw [e1]
          simp only
          rw [aop_step m3 m1, stepV_agree (agree_putO hq1), e2]
          simp only
          rw [← putO_comm _ _ _ _ _ hd]
          exact h
        simp only [Bool.or_eq_true, Bool.and_eq_true] at m4
        rcases m4 with (((m4 | ⟨m4, m5⟩) | ⟨m4, m5⟩) | m4) | ⟨⟨m4, m5⟩, m6⟩
        · obtain ⟨rfl, rfl, e3⟩ := pure_step m4 he
          exact fin hu (e3 _ _)
        · cases p <;> simp [AOp.isLoadB] at m4
          rename_i i n x
          obtain ⟨rfl, rfl, e3⟩ := loadB_step he
          refine fin hu (e3 _ _ ?_)
          cases q <;> first
            | (have := (pure_step rfl hu).1; rw [this]; done)
            | (have := (readH_step rfl hu).1; rw [this]; done)
            | (have := (loadB_step hu).1; rw [this]; done)
            | (refine (push_eff rfl hu).2 i ?_; simp [AOp.writesBox]; done)
            | (refine (push_eff rfl hu).2 i ?_; intro e; simp only [AOp.writesBox, Option.some.injEq] at e; subst e; simp [AOp.readsBox, AOp.writesBox, boxApart] at m5; done)
            | (simp [AOp.clearsBox] at m2; done)
            | (simp [AOp.isCall] at hcall'; done)
            | skip
          · -- storeH
            simp only [stepV] at hu
            split at hu
            · split at hu
              · simp only [Option.bind_eq_some_iff] at hu
                obtain ⟨_, _, hu⟩ := hu
                cases hu; rfl
              · cases hu
            · cases hu
          · -- app
            simp only [stepV] at hu
            split at hu
            · simp only [Option.bind_eq_some_iff] at hu
              obtain ⟨⟨_, _⟩, _, hu⟩ := hu
              cases hu; rfl
            · cases hu
        · obtain ⟨rfl, rfl, e3⟩ := readH_step m4 he
          refine fin hu (e3 _ _ ?_)
          rcases m5 with ((m5 | m5) | m5) | m5
          · exact .inl (pure_step m5 hu).2.1
          · cases q <;> simp [AOp.isLoadB] at m5
            exact .inl (loadB_step hu).2.1
          · exact .inl (readH_step m5 hu).2.1
          · exact (push_eff m5 hu).1
        · obtain ⟨rfl, rfl, e3⟩ := pure_step m4 hu
          exact fin (e3 _ _) he
        · cases q <;> simp [AOp.isLoadB] at m4
          rename_i i n x
          obtain ⟨rfl, rfl, e3⟩ := loadB_step hu
          refine fin (e3 bx hp ?_) he
          refine ((push_eff m5 he).2 i ?_).symm
          intro e
          rw [e] at m6
          simp [AOp.readsBox, boxApart] at m6
      · exact h.elim
  · exact h.elim

/-! ### With guards -/

/-- What the guard makes of an operation. -/
def AOper.eff (o : AOper) (s : List V) : Option AOp :=
  match o.guard with
  | none => some o.op
  | some (g, want) => match get s g with
    | .bool b => if b = want then some o.op else some (.mv (.c (.tup [])))
    | .tup [] => some (.mv (.c (.tup [])))
    | _ => none
theorem aoper_eff (o : AOper) (k : St → Prop) (st : St) : aoper o k st = match o.eff st.sl with | some p => aop p o.dst k st | none => False := by
  unfold aoper AOper.eff
  cases o.guard with
  | none => rfl
  | some gw =>
    obtain ⟨g, want⟩ := gw
    simp only
    generalize get st.sl g = u
    cases u with
    | bool b =>
      by_cases h : b = want
      · simp only [if_pos h]
      · simp only [if_neg h]; rfl
    | tup vs => cases vs <;> rfl
    | _ => rfl
theorem eff_agree {o : AOper} {s s' : List V} (h : Agree o.looks s s') : o.eff s' = o.eff s := by
  unfold AOper.eff
  cases hg : o.guard with
  | none => rfl
  | some gw =>
    obtain ⟨g, want⟩ := gw
    simp only
    rw [h g (by simp [AOper.looks, hg])]
theorem eff_cases {o : AOper} {s : List V} {p : AOp} (h : o.eff s = some p) : p = o.op ∨ p = .mv (.c (.tup [])) := by
  unfold AOper.eff at h
  split at h
  · exact .inl (Option.some.inj h).symm
  · split at h
    · split at h
      · exact .inl (Option.some.inj h).symm
      · exact .inr (Option.some.inj h).symm
    · exact .inr (Option.some.inj h).symm
    · cases h

/-- The slots behind a 'stepV' or a call: what the second operation sees of its guard. -/
theorem aop_mono {o : AOp} {d : Option Nat} {k k' : St → Prop} {st : St} (hb : o.clearsBox = false) (h : ∀ v bx hp, k ⟨putO st.sl d v, bx, hp⟩ = k' ⟨putO st.sl d v, bx, hp⟩) : aop o d k st = aop o d k' st := by
  obtain ⟨sl, bx, hp⟩ := st
  by_cases hc : o.isCall = true
  · cases o <;> simp [AOp.isCall] at hc
    rename_i f args
    simp only [aop]
    have e : (fun r h' => k (St.put ⟨sl, bx, h'⟩ d r)) = (fun r h' => k' (St.put ⟨sl, bx, h'⟩ d r)) := by
      funext r h'
      rw [st_put]; exact h r bx h'
    rw [e]
  · have hc' : o.isCall = false := by simpa using hc
    rw [aop_step hc' hb, aop_step hc' hb]
    split
    · exact h _ _ _
    · rfl

theorem aoper_swap {p q : AOper} {k : St → Prop} {st : St} (hs : swapOK p q = true) (h : aoper p (aoper q k) st) : aoper q (aoper p k) st := by
  unfold swapOK at hs
  simp only [Bool.and_eq_true] at hs
  obtain ⟨⟨⟨h1, h2⟩, h3⟩, h4⟩ := hs
  have h4' := h4
  unfold memOK at h4'
  simp only [Bool.and_eq_true, Bool.not_eq_true'] at h4'
  obtain ⟨⟨⟨m1, m2⟩, m3⟩, m4⟩ := h4'
  rw [aoper_eff] at h ⊢
  cases hp : p.eff st.sl with
  | none => rw [hp] at h; exact h.elim
  | some p' =>
    rw [hp] at h
    simp only at h
    have cp : p'.clearsBox = false := by rcases eff_cases hp with rfl | rfl <;> first | exact m1 | rfl
    have e1 : aop p' p.dst (aoper q k) st = aop p' p.dst (fun st' => match q.eff st.sl with | some q' => aop q' q.dst k st' | none => False) st :=
      aop_mono cp fun v bx hp => by rw [aoper_eff, eff_agree (agree_putO h1)]
    rw [e1] at h
    cases hq : q.eff st.sl with
    | none =>
      rw [hq] at h
      simp only at h
      have hpc : p'.isCall = false := by rcases eff_cases hp with rfl | rfl <;> first | exact m3 | rfl
      obtain ⟨sl, bx, hh⟩ := st
      rw [aop_step hpc cp] at h
      split at h <;> exact h
    | some q' =>
      rw [hq] at h
      simp only at h ⊢
      have cq : q'.clearsBox = false := by rcases eff_cases hq with rfl | rfl <;> first | exact m2 | rfl
      have e2 : aop q' q.dst (aoper p k) st = aop q' q.dst (aop p' p.dst k) st :=
        aop_mono cq fun v bx hh => by rw [aoper_eff, eff_agree (agree_putO h2)]; simp only [hp]
      rw [e2]
      refine aop_swap (k := k) ?_ ?_ h3 ?_ h
      · rcases eff_cases hq with rfl | rfl
        · exact notIn_left h1
        · cases p.dst <;> rfl
      · rcases eff_cases hp with rfl | rfl
        · exact notIn_left h2
        · cases q.dst <;> rfl
      · rcases eff_cases hp with rfl | rfl <;> rcases eff_cases hq with rfl | rfl
        · exact h4
        · exact memOK_right m1 m3 rfl rfl
        · exact memOK_left rfl rfl rfl m2
        · rfl

end Go.Ag
