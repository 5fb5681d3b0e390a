/-
  A REGION IN THE ORDER OF THE TEXT: operations, calls, guards.
-/
import Derived.Test.YtimnnpimflgonaaAgStep
namespace Go.Ag

def okGuard (ops : Array Oper) : Option (Nat × Bool) → Option (Nat × Bool) → Bool
  | none, none => true
  | some (j, want), some (g, want') => want == want' && (ops[j]?).bind (·.dst) == some g
  | _, _ => false
def hasBody (P : Program) (g : FuncId) : Bool := match P.funcs[g]? with | some fn => fn.body.isSome && fn.name != "runtime.NumGoroutine" | none => false
def calleeOf (P : Program) (op : Op) (args : List Opnd) : Option FuncId :=
  match op with
  | .call c => (match c.callee with
    | .value (.func g) => if okXs c.args.toList args && hasBody P g then some g else none
    | _ => none)
  | _ => none
def okOper (P : Program) (ops : Array Oper) (ao : AOper) : Bool :=
  match ops[ao.id]? with
  | some o => o.dst == ao.dst && okGuard ops o.guard ao.guard && (match ao.op with | .call _ args => (calleeOf P o.op args).isSome | p => okOp P o.op p)
  | none => false
def callOb (P : Program) (ops : Array Oper) (ao : AOper) : List (FuncId × CallSem) :=
  match ao.op, ops[ao.id]? with
  | .call f args, some o => (match calleeOf P o.op args with | some g => [(g, f)] | none => [])
  | _, _ => []

theorem rep_put {ι0 ι : Inj} {σ0 hp : Heap} {w0 w : World} {a : Act} {sl : List V} {bx : List (List V)} {β : Nat → Nat} {v : V} {x : Value} {d : Option Nat} (hd : a.defers = []) (H : HRel ι hp w) (B : BRel ι hp β bx w0 w)
    (S : SRel ι hp β sl a.tmps) (hv : Rel ι hp β v x) (T : Step ι0 σ0 w0 ι hp w) : Rep ι0 σ0 w0 (St.put ⟨sl, bx, hp⟩ d v) (a.put d x) w := by
  cases d with
  | none => exact ⟨hd, ι, β, H, B, S, T⟩
  | some d =>
    refine ⟨hd, ι, β, H, B, ⟨by simpa [Act.put, St.put] using S.1, fun i => ?_⟩, T⟩
    simp only [Act.put, St.put]
    by_cases hi : i = d
    · subst hi
      by_cases hl : i < sl.length
      · rw [get_put_same _ _ _ hl]
        have : i < a.tmps.size := Nat.lt_of_lt_of_le hl S.1
        have e : (a.tmps.setIfInBounds i x).getD i Go.undef = x := by simp [Array.getD, this]
        rw [e]; exact hv
      · rw [get_ge _ _ (by simp; omega)]; exact .undef _
    · rw [get_put_other _ _ _ _ hi]
      have e : (a.tmps.setIfInBounds d x).getD i Go.undef = a.tmps.getD i Go.undef := by
        simp only [Array.getD_eq_getD_getElem?, Array.getElem?_setIfInBounds, if_neg (Ne.symm hi)]
      rw [e]; exact S.2 i

/-- The boxes of this frame behind a call. -/
theorem boxes_call {ι ι' : Inj} {σ σ' : Heap} {w0 w w' : World} {β : Nat → Nat} {bx : List (List V)} (B : BRel ι σ β bx w0 w) (T : Step ι σ w ι' σ' w') : BRel ι' σ' β bx w0 w' := by
  refine B.mono T.keeps (fun i cs hi hne => T.frame _ (B.new i cs hi hne).2 fun l blk hl hk => B.heap i cs l blk hi hne hl (by rw [hk]; decide)) T.size fun i cs l blk' hi hne hl hk => ?_
  by_cases hlt : l < σ.length
  · obtain ⟨blk, hb⟩ := get_some hlt
    rw [T.keeps.place l blk hb]
    rcases T.kinds l blk blk' hb hl with e | ⟨_, e⟩
    · exact B.heap i cs l blk hi hne hb (e ▸ hk)
    · exact absurd e hk
  · rcases (T.fresh l blk' (by omega) hl hk).2 with e | ⟨l0, blk0, h0, k0, p0⟩
    · have := (B.new i cs hi hne).2; omega
    · rw [← p0]; exact B.heap i cs l0 blk0 hi hne h0 (by rw [k0]; decide)

theorem okXs_rel {xs : List Operand} {ys : List Opnd} (h : okXs xs ys = true) {ι : Inj} {σ : Heap} {β : Nat → Nat} {sl : List V} {a : Act} (S : SRel ι σ β sl a.tmps) (hk : (ys.map (·.ev sl)).all V.ok1 = true) : RelArgs ι σ (ys.map (·.ev sl)) (xs.map a.eval) := by
  induction xs generalizing ys with
  | nil => cases ys with
    | nil => exact ⟨rfl, by simp⟩
    | cons => simp [okXs] at h
  | cons x r ih => cases ys with
    | nil => simp [okXs] at h
    | cons y s =>
      simp only [okXs, Bool.and_eq_true] at h
      simp only [List.map_cons, List.all_cons, Bool.and_eq_true] at hk
      obtain ⟨h1, h2⟩ := ih h.2 hk.2
      refine ⟨by simp at h1 ⊢; exact h1, fun i v xv hv hx β' => ?_⟩
      cases i with
      | zero =>
        simp at hv hx
        subst hv; subst hx
        refine (okX_rel h.1 S).mono (.refl _ _) fun j q e => ?_
        rw [e] at hk
        simp [V.ok1, V.cell] at hk
      | succ i => exact h2 i v xv (by simpa using hv) (by simpa using hx) β'

section
variable {P : Program} {ops : Array Oper} {ι0 : Inj} {σ0 : Heap} {w0 : World} {st : St} {a : Act} {w : World} {Q : Exit → Act → World → Prop}

theorem run_call {o : Oper} {args : List Opnd} {g : FuncId} (h : calleeOf P o.op args = some g) : ∃ xs : List Operand, okXs xs args = true ∧ (execOp a.eval o).run P w = .ok (.enter g (xs.map a.eval).toArray) w := by
  unfold calleeOf at h
  split at h
  · rename_i c ho
    split at h
    · rename_i g' hc
      split at h
      · rename_i hcond
        cases h
        simp only [Bool.and_eq_true] at hcond
        obtain ⟨h1, h2⟩ := hcond
        unfold hasBody at h2
        split at h2
        · rename_i fn hfn
          simp only [Bool.and_eq_true, bne_iff_ne, ne_eq] at h2
          refine ⟨c.args.toList, h1, ?_⟩
          have hb : fn.body ≠ none := by
            have := h2.1
            intro hq
            rw [hq] at this; simp at this
          have he : a.eval (.func g) = .func (.func g) #[] #[] := rfl
          have hn : ¬ fn.name = "runtime.NumGoroutine" := h2.2
          simp [execOp, ho, resolve, hc, he, Deferred.ofValue, invoke, callFunc, hfn, hb, hn]
          apply Array.ext'
          simp
        · cases h2
      · cases h
    · cases h
  · cases h

/-- A call that stands alone. -/
theorem aop_call_sound {o : Oper} {f : CallSem} {args : List Opnd} {g : FuncId} {d : Option Nat} {k : St → Prop} {K : Act → World → Prop} (hd : o.dst = d) (hg : calleeOf P o.op args = some g) (hs : SoundCall P g f) (hrep : Rep ι0 σ0 w0 st a w)
    (h : aop (.call f args) d k st) (hK : ∀ st' a' w', Rep ι0 σ0 w0 st' a' w' → k st' → K a' w') : o.wp P a w K Q := by
  obtain ⟨hdf, ι, β, H, B, S, T⟩ := hrep
  obtain ⟨hargs, hsem⟩ := h
  obtain ⟨xs, hxs, hrun⟩ := run_call (a := a) (w := w) hg
  unfold Oper.wp
  rw [hrun, Oper.upon_enter]
  refine (hs ι st.hp w _ _ _ H (okXs_rel hxs S hargs) hsem).mono ?_
  rintro e w' ⟨x, r, σ', ι', rfl, hq, hr, H', T'⟩
  refine hK _ _ _ ?_ hq
  subst hd
  exact rep_put hdf H' (boxes_call B T') (S.mono T'.keeps) (hr β) (T.trans T')

theorem aop_sound {o : Oper} {ao : AOp} {d : Option Nat} {k : St → Prop} {K : Act → World → Prop} (hd : o.dst = d) (hk : match ao with | .call _ args => (calleeOf P o.op args).isSome = true | p => okOp P o.op p = true)
    (hc : ∀ f args g, ao = .call f args → calleeOf P o.op args = some g → SoundCall P g f) (hrep : Rep ι0 σ0 w0 st a w) (h : aop ao d k st) (hK : ∀ st' a' w', Rep ι0 σ0 w0 st' a' w' → k st' → K a' w') : o.wp P a w K Q := by
  by_cases hcall : ∃ f args, ao = .call f args
  · obtain ⟨f, args, rfl⟩ := hcall
    obtain ⟨g, hg⟩ := Option.isSome_iff_exists.1 hk
    exact aop_call_sound hd hg (hc f args g rfl hg) hrep h hK
  · have hk' : okOp P o.op ao = true := by
      cases ao <;> first | exact hk | exact absurd ⟨_, _, rfl⟩ hcall
    have h' : match stepV ao st with | some (v, bx, hp) => k (St.put { sl := ao.clears st.sl, bx, hp } d v) | none => False := by
      cases ao <;> first | exact h | exact absurd ⟨_, _, rfl⟩ hcall
    split at h'
    · rename_i v bx hp he
      obtain ⟨hdf, ι, β, H, B, S, T⟩ := hrep
      obtain ⟨nx, x, w', ι', β', hrun, hnx, H', B', S', hv, T'⟩ := op_sound H B S T hk' he
      subst hd
      unfold Oper.wp
      rw [hrun]
      rcases hnx with rfl | ⟨rfl, rfl⟩
      · exact hK _ _ _ (rep_put hdf H' B' S' hv T') h'
      · exact hK _ _ _ (rep_put hdf H' B' S' hv T') h'
    · exact h'.elim

/-- One operation of a region, with its guard. -/
theorem aoper_sound {ao : AOper} {k : St → Prop} {K : Act → World → Prop} (hk : okOper P ops ao = true) (hc : ∀ p ∈ callOb P ops ao, SoundCall P p.1 p.2) (hrep : Rep ι0 σ0 w0 st a w) (h : aoper ao k st)
    (hK : ∀ st' a' w', Rep ι0 σ0 w0 st' a' w' → k st' → K a' w') : wpOp P ops Q ao.id K a w := by
  unfold okOper at hk
  split at hk
  · rename_i o ho
    simp only [Bool.and_eq_true, beq_iff_eq] at hk
    obtain ⟨⟨h1, h2⟩, h3⟩ := hk
    have hmatch : match ao.op with | .call _ args => (calleeOf P o.op args).isSome = true | p => okOp P o.op p = true := by
      revert h3; cases ao.op <;> exact fun h => h
    have hcall : ∀ f args g, ao.op = .call f args → calleeOf P o.op args = some g → SoundCall P g f := by
      intro f args g e1 e2
      exact hc (g, f) (by simp [callOb, e1, ho, e2])
    unfold wpOp
    simp only [ho]
    unfold aoper at h
    unfold okGuard at h2
    split at h2
    · rename_i g1 g2
      have hw : Region.wanted o (yielded ops a.tmps) = true := by unfold Region.wanted; rw [g1]
      rw [g2] at h
      rw [if_pos hw]
      exact .inl (aop_sound h1 hmatch hcall hrep h hK)
    · rename_i j want g want' g1 g2
      simp only [Bool.and_eq_true, beq_iff_eq] at h2
      obtain ⟨rfl, hj⟩ := h2
      rw [g2] at h
      have hrel : Rel _ _ _ (get st.sl g) (a.tmps.getD g Go.undef) := hrep.2.choose_spec.choose_spec.2.2.1.2 g
      have hy : yielded ops a.tmps j = match a.tmps[g]? with | some (.bool b) => some b | _ => none := by
        unfold yielded; rw [hj]; rfl
      simp only at h
      split at h
      · rename_i b hb
        rw [hb] at hrel
        have e := rel_bool hrel
        have e2 : a.tmps[g]? = some (.bool b) := by
          cases hq : a.tmps[g]? with
          | none => simp [Array.getD_eq_getD_getElem?, hq, Go.undef] at e
          | some u => simp [Array.getD_eq_getD_getElem?, hq] at e; rw [e]
        have hw : Region.wanted o (yielded ops a.tmps) = (b == want) := by
          unfold Region.wanted
          rw [g1]
          simp only [hy, e2]
          cases b <;> cases want <;> rfl
        split at h
        · rename_i hbw
          rw [if_pos (by rw [hw, hbw]; simp)]
          exact .inl (aop_sound h1 hmatch hcall hrep h hK)
        · rename_i hbw
          rw [if_neg (by rw [hw]; simpa using hbw)]
          obtain ⟨hdf, ι, β, H, B, S, T⟩ := hrep
          rw [h1]
          exact hK _ _ _ (rep_put hdf H B S (.tup [] [] rfl (by simp) (by simp)) T) h
      · rename_i hb
        rw [hb] at hrel
        obtain ⟨ws, e, hl, _, _⟩ := rel_tup hrel
        have hws : ws = [] := List.length_eq_zero_iff.1 hl.symm
        subst hws
        have hw : Region.wanted o (yielded ops a.tmps) = false := by
          unfold Region.wanted
          rw [g1]
          simp only [hy]
          cases hq : a.tmps[g]? with
          | none => rfl
          | some u => simp [Array.getD_eq_getD_getElem?, hq] at e; rw [e]; rfl
        rw [if_neg (by rw [hw]; simp)]
        obtain ⟨hdf, ι, β, H, B, S, T⟩ := hrep
        rw [h1]
        exact hK _ _ _ (rep_put hdf H B S (.tup [] [] rfl (by simp) (by simp)) T) h
      · exact h.elim
    · cases h2
  · cases hk

/-- The operations in the order of the text. -/
theorem aops_sound {k : St → Prop} (hQ : ∀ st' a' w', Rep ι0 σ0 w0 st' a' w' → k st' → Q .normal a' w') : ∀ (l : List AOper) (st : St) (a : Act) (w : World), (∀ ao ∈ l, okOper P ops ao = true) → (∀ ao ∈ l, ∀ p ∈ callOb P ops ao, SoundCall P p.1 p.2) →
    Rep ι0 σ0 w0 st a w → aops l k st → wpOps P ops Q (l.map (·.id)) a w
  | [], st, a, w, _, _, hr, h => hQ _ _ _ hr h
  | ao :: l, st, a, w, hk, hc, hr, h => by
    rw [List.map_cons, wpOps_cons]
    exact aoper_sound (hk ao (by simp)) (hc ao (by simp)) hr h fun st' a' w' hr' h' => aops_sound hQ l st' a' w' (fun x hx => hk x (by simp [hx])) (fun x hx => hc x (by simp [hx])) hr' h'
end
end Go.Ag
