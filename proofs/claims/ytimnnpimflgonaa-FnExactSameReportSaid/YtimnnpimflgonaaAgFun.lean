/-
  A FUNCTION: if its body is the abstract one, and its callees are sound, it is sound.
-/
import Derived.Test.YtimnnpimflgonaaAgCode
namespace Go.Ag

def okRes (P : Program) : List ResultVar → List ARes → Bool
  | [], [] => true
  | .tmp t :: r, .tmp u :: s => t == u && okRes P r s
  | .cell a ty :: r, .cell b n :: s => a == b && okVar P ty n && okRes P r s
  | _, _ => false
def okFun (P : Program) (fn : Func) (f : AFun) : Bool :=
  (match fn.body with | some c => okCode P c f.body | none => false) && okRes P fn.results.toList f.res && decide (f.nparams ≤ f.nslots) && decide (f.nslots ≤ fn.ntmps)
def funOb (P : Program) (fn : Func) (f : AFun) : List (FuncId × CallSem) := match fn.body with | some c => codeOb P c f.body | none => []

theorem get_eq (s : List V) (i : Nat) : get s i = s[i]?.getD .undef := by
  induction s generalizing i with
  | nil => rfl
  | cons x r ih => cases i with
    | zero => rfl
    | succ i => simp only [get, List.getElem?_cons_succ]; exact ih i
theorem reps_get (n i : Nat) : (reps n)[i]?.getD V.undef = .undef := by
  induction n generalizing i with
  | zero => rfl
  | succ n ih => cases i with
    | zero => rfl
    | succ i => simpa [reps] using ih i
theorem reps_len (n : Nat) : (reps n).length = n := by
  induction n with
  | zero => rfl
  | succ n ih => simp [reps, ih]
theorem repb_get (n i : Nat) (cs : List V) (h : (repb n)[i]? = some cs) : cs = [] := by
  induction n generalizing i with
  | zero => simp [repb] at h
  | succ n ih => cases i with
    | zero => simp [repb] at h; exact h
    | succ i => exact ih i (by simpa [repb] using h)

theorem Rel.ok1 {ι : Inj} {σ : Heap} {β : Nat → Nat} {v : V} {x : Value} (hv : v.ok1 = true) (h : Rel ι σ β v x) (β' : Nat → Nat) : Rel ι σ β' v x :=
  h.mono (.refl _ _) fun i o e => by subst e; simp [V.ok1, V.cell] at hv

section
variable {P : Program} {ι : Inj} {β : Nat → Nat} {st : St} {a : Act} {w0 w : World} (H : HRel ι st.hp w) (B : BRel ι st.hp β st.bx w0 w) (S : SRel ι st.hp β st.sl a.tmps)
include H B S

def resRun (tmps : Array Value) : ResultVar → Sem Value
  | .tmp t => pure (tmps.getD t undef)
  | .cell a t => do loadVar t (← asAddr (tmps.getD a undef))

theorem res_one {r : ResultVar} {ar : ARes} {v : V} (hk : okRes P [r] [ar] = true) (e : resOf st ar = some v) : ∃ x, (resRun a.tmps r).run P w = .ok x w ∧ v.ok1 = true ∧ ∀ β, Rel ι st.hp β v x := by
  cases r with
  | tmp t => cases ar with
    | tmp u =>
      simp [okRes] at hk
      subst hk
      simp only [resOf] at e
      split at e
      · rename_i ho
        cases e
        exact ⟨_, rfl, ho, fun β' => (S.2 t).ok1 ho β'⟩
      · cases e
    | cell u n => simp [okRes] at hk
  | cell t ty => cases ar with
    | tmp u => simp [okRes] at hk
    | cell u n =>
      simp [okRes] at hk
      obtain ⟨rfl, hk⟩ := hk
      simp only [resOf] at e
      have fin : ∀ (ad : Addr) (cs : List V) (ws : List Value), a.tmps.getD t Go.undef = .pointer (some ad) → aggOr n cs = some v → ws.length = n.getD 1 → cs.length = n.getD 1 → (∀ u, u ∈ cs → u.cell = true) →
          (∀ (j : Nat) y, ws[j]? = some y → w.cell? (ad.add j) = some y) → (∀ (j : Nat) u y, cs[j]? = some u → ws[j]? = some y → ∀ β', Rel ι st.hp β' u y) → ∃ x, (resRun a.tmps (.cell t ty)).run P w = .ok x w ∧ v.ok1 = true ∧ ∀ β, Rel ι st.hp β v x := by
        intro ad cs ws ea e1 h1 h2 h3 h4 h5
        have hl := run_loadVar' (P := P) hk h1 h4
        have hok : v.ok1 = true := by
          cases n with
          | some m => simp [aggOr] at e1; subst e1; simpa [V.ok1] using h3
          | none =>
            match cs, h2 with
            | [c], _ => simp [aggOr] at e1; subst e1; have := h3 c (by simp); cases c <;> first | exact this | simp [V.cell] at this
        rcases rel_aggOr (ι := ι) (σ := st.hp) (β := β) e1 (by rw [h1, h2]) h3 (fun j u y hu hy => h5 j u y hu hy _) with ⟨hn, hr⟩ | ⟨hn, y, hy, hr⟩
        · exact ⟨_, by simp only [resRun, ea, asAddr, Sem.run_bind, Sem.run_pure, Result.andThen_ok]; exact hl.1 hn, hok, fun β' => hr.ok1 hok β'⟩
        · exact ⟨y, by simp only [resRun, ea, asAddr, Sem.run_bind, Sem.run_pure, Result.andThen_ok]; exact hl.2 hn y hy, hok, fun β' => hr.ok1 hok β'⟩
      split at e
      · rename_i i q hq
        have hs := S.2 t
        rw [hq] at hs
        have ea := rel_box hs
        split at e
        · rename_i hle
          by_cases h0 : n.getD 1 = 0
          · exact fin _ [] [] ea (by rw [h0] at e; simpa using e) (by rw [h0]; rfl) (by rw [h0]; rfl) (by simp) (by simp) (by simp)
          · have hne : getB st.bx i ≠ [] := fun h => by rw [h] at hle; simp at hle; omega
            have hbi : st.bx[i]? = some (getB st.bx i) := by
              rw [getB_eq] at hne ⊢
              cases h : st.bx[i]? with
              | none => rw [h] at hne; exact absurd rfl hne
              | some c => rfl
            obtain ⟨arr, el, harr, hsz, hcells⟩ := B.cells i _ hbi hne
            refine fin _ _ ((arr.toList.drop q).take (n.getD 1)) ea e (by simp; omega) (take_drop_len hle) (fun u hu => ?_) (fun j y hy => ?_) (fun j u y hu hy => ?_)
            · obtain ⟨k, hk⟩ := List.getElem?_of_mem hu
              obtain ⟨_, hk⟩ := take_drop_get hk
              exact (hcells _ _ hk).1
            · obtain ⟨_, hy⟩ := take_drop_get hy
              rw [addr_add]
              simp only [World.cell?, harr]
              simpa using hy
            · obtain ⟨_, hu⟩ := take_drop_get hu
              obtain ⟨_, y', hy', hr⟩ := hcells _ _ hu
              obtain ⟨_, hy⟩ := take_drop_get hy
              have : arr[q + j]? = some y := by simpa using hy
              rw [hy'] at this; cases this; exact hr
        · cases e
      · rename_i l q hq
        have hs := S.2 t
        rw [hq] at hs
        have ea := (rel_ptr hs).2
        simp only [Option.bind_eq_some_iff] at e
        obtain ⟨cs, e0, e1⟩ := e
        obtain ⟨ws, h1, h2, h3, h4, h5⟩ := rd_cells H e0
        exact fin _ cs ws ea e1 h1 h2 h3 h4 h5
      · cases e

theorem res_list : ∀ (rs : List ResultVar) (ars : List ARes) (vs : List V), okRes P rs ars = true → resAll st ars = some vs → ∃ xs : List Value, (rs.mapM (resRun a.tmps)).run P w = .ok xs w ∧ vs.length = xs.length ∧ (∀ v, v ∈ vs → v.ok1 = true) ∧
    ∀ (i : Nat) v x, vs[i]? = some v → xs[i]? = some x → ∀ β, Rel ι st.hp β v x
  | [], [], vs, _, e => by simp [resAll] at e; subst e; exact ⟨[], by simp, rfl, by simp, by simp⟩
  | [], _ :: _, _, h, _ => by simp [okRes] at h
  | r :: rs, [], _, h, _ => by cases r <;> simp [okRes] at h
  | r :: rs, ar :: ars, vs, h, e => by
    have h1 : okRes P [r] [ar] = true ∧ okRes P rs ars = true := by
      cases r <;> cases ar <;> simp [okRes] at h ⊢ <;> simp [h]
    simp only [resAll] at e
    split at e
    · rename_i v vs' e1 e2
      cases e
      obtain ⟨x, q1, q2, q3⟩ := res_one H B S h1.1 e1
      obtain ⟨xs, p1, p2, p3, p4⟩ := res_list rs ars vs' h1.2 e2
      refine ⟨x :: xs, by simp only [List.mapM_cons, Sem.run_bind, q1, p1, Result.andThen_ok, Sem.run_pure], by simp [p2], fun u hu => ?_, fun i u y hu hy => ?_⟩
      · rcases List.mem_cons.1 hu with rfl | hu
        · exact q2
        · exact p3 u hu
      · cases i with
        | zero => simp at hu hy; subst hu; subst hy; exact q3
        | succ i => exact p4 i u y (by simpa using hu) (by simpa using hy)
    · cases e

theorem res_sound {fn : Func} {ars : List ARes} {v : V} (hk : okRes P fn.results.toList ars = true) (e : resV st ars = some v) : ∃ x, (results fn a.tmps).run P w = .ok x w ∧ ∀ β, Rel ι st.hp β v x := by
  have hres : ∀ xs : List Value, (fn.results.toList.mapM (resRun a.tmps)).run P w = .ok xs w → (results fn a.tmps).run P w = .ok (if h : xs.toArray.size = 1 then xs.toArray[0] else .tuple xs.toArray) w := by
    intro xs h
    have : (fn.results.mapM (resRun a.tmps)).run P w = .ok xs.toArray w := by
      rw [Array.mapM_eq_mapM_toList]
      simp only [Sem.run_map, h, Result.andThen_ok]
    have e : results fn a.tmps = (fn.results.mapM (resRun a.tmps)) >>= fun vs => pure (if h : vs.size = 1 then vs[0] else .tuple vs) := by
      unfold results
      congr 1
    rw [e]
    simp only [Sem.run_bind, this, Result.andThen_ok]
    rfl
  have all : ∀ vs, resAll st ars = some vs → (ars.length ≠ 1 ∧ v = .tup vs ∨ vs = [v]) → ∃ x, (results fn a.tmps).run P w = .ok x w ∧ ∀ β, Rel ι st.hp β v x := by
    intro vs hvs hcase
    obtain ⟨xs, p1, p2, p3, p4⟩ := res_list H B S _ _ vs hk hvs
    have hr := hres xs p1
    rcases hcase with ⟨hne, rfl⟩ | rfl
    · have hlen : ∀ (l : List ARes) (vs : List V), resAll st l = some vs → vs.length = l.length := by
        intro l
        induction l with
        | nil => intro vs h; simp [resAll] at h; subst h; rfl
        | cons x r ih =>
          intro vs h
          simp only [resAll] at h
          split at h
          · rename_i v' vs' _ e2
            cases h
            simp [ih vs' e2]
          · cases h
      have : xs.toArray.size ≠ 1 := by
        have := hlen ars vs hvs
        simp; omega
      rw [dif_neg this] at hr
      exact ⟨_, hr, fun β => .tup vs xs p2 p3 fun i u x hu hx => p4 i u x hu hx β⟩
    · match xs, p2 with
      | [x], _ =>
        rw [dif_pos (by rfl)] at hr
        exact ⟨x, hr, p4 0 v x rfl rfl⟩
  match ars, e with
  | [], e => simp [resV, resAll] at e; subst e; exact all [] rfl (.inl ⟨by simp, rfl⟩)
  | [r], e => exact all [v] (by simp only [resV] at e; simp [resAll, e]) (.inr rfl)
  | r1 :: r2 :: rs, e =>
    simp only [resV, Option.map_eq_some_iff] at e
    obtain ⟨vs, e1, e2⟩ := e
    exact all vs e1 (.inl ⟨by simp, e2.symm⟩)
end

/-- A value that refers to no memory stands for the same whatever the heap. -/
theorem Rel.flat {ι ι' : Inj} {σ σ' : Heap} {β β' : Nat → Nat} {v : V} {x : Value} (hv : v.flat2 = true) (h : Rel ι σ β v x) : Rel ι' σ' β' v x := by
  have f0 : ∀ {v : V} {x : Value}, v.flat = true → Rel ι σ β v x → Rel ι' σ' β' v x := by
    intro v x hv h
    cases h <;> first
      | exact .bool _
      | exact .int _ _
      | exact .str _
      | exact .nils _
      | exact .nilIfc
      | exact .ifc _ _
      | simp [V.flat] at hv
  have f1 : ∀ {v : V} {x : Value}, v.flat1 = true → Rel ι σ β v x → Rel ι' σ' β' v x := by
    intro v x hv h
    cases h with
    | agg cs ws hl hk h =>
      simp only [V.flat1, List.all_eq_true] at hv
      exact .agg cs ws hl hk fun i u y hu hy => f0 (hv u (List.mem_of_getElem? hu)) (h i u y hu hy)
    | tup cs ws hl hk h => simp [V.flat1, V.flat] at hv
    | _ => exact f0 hv (by constructor <;> assumption)
  cases h with
  | tup cs ws hl hk h =>
    simp only [V.flat2, List.all_eq_true] at hv
    exact .tup cs ws hl hk fun i u y hu hy => f1 (hv u (List.mem_of_getElem? hu)) (h i u y hu hy)
  | agg cs ws hl hk h => exact f1 hv (.agg cs ws hl hk h)
  | _ => exact f1 hv (by constructor <;> assumption)

theorem take_get {σ h0 : Heap} (hp : σ.take h0.length = h0) {l : Nat} {blk : Blk} (h : h0[l]? = some blk) : σ[l]? = some blk := by
  rw [← hp, List.getElem?_take] at h
  split at h
  · exact h
  · cases h

/-- The heap is cut back to what it was. -/
theorem narrow {ι ι' : Inj} {h0 σ : Heap} {w w' : World} (H0 : HRel ι h0 w) (H : HRel ι' σ w') (T : Step ι h0 w ι' σ w') (hp : σ.take h0.length = h0) : HRel ι' h0 w' ∧ Step ι h0 w ι' h0 w' := by
  refine ⟨⟨fun l blk hl hk i v hv => ?_, fun l blk hl hk => H.own l blk (take_get hp hl) hk, fun l l' b b' hne hl hl' hk hk' => H.apart l l' b b' hne (take_get hp hl) (take_get hp hl') hk hk', fun l blk hl hk => H.there l blk (take_get hp hl) hk⟩, ?_⟩
  · obtain ⟨q1, x, q2, q3⟩ := H.cells l blk (take_get hp hl) hk i v hv
    obtain ⟨_, x0, _, q4⟩ := H0.cells l blk hl hk i v hv
    refine ⟨q1, x, q2, fun β => ?_⟩
    have h1 := q3 β
    have h2 := q4 β
    cases v with
    | slice m o n =>
      obtain ⟨b0, g0, _⟩ := rel_slice h2
      have g1 := take_get hp g0
      obtain ⟨b1, g2, hc⟩ := rel_slice h1
      rw [g1] at g2; cases g2
      rcases hc with ⟨c, rfl, c1, c2⟩ | ⟨rfl, a, rfl⟩
      · exact .slice m o n c b0 g0 c1 c2
      · exact .sliceEnd m o b0 g0 a
    | ptr m o =>
      obtain ⟨⟨b0, g0⟩, _⟩ := rel_ptr h2
      rw [(rel_ptr h1).2]
      exact .ptr m o b0 g0
    | undef => simp [V.cell] at q1
    | box i o => simp [V.cell] at q1
    | agg cs => simp [V.cell] at q1
    | tup cs => simp [V.cell] at q1
    | bool b => exact h1.flat rfl
    | int k n => exact h1.flat rfl
    | str s => exact h1.flat rfl
    | nils => exact h1.flat rfl
    | ifc b => exact h1.flat rfl
  · exact { keeps := ⟨T.keeps.place, fun l blk h => ⟨blk, h, rfl⟩⟩
            kinds := fun l b b' h h' => .inl (by rw [h] at h'; cases h'; rfl)
            fresh := fun l b hl h _ => by have := get_len h; omega
            frame := T.frame, size := T.size, os := T.os, output := T.output, tape := T.tape }

/-- **A FUNCTION IS SOUND.** -/
theorem fun_sound {P : Program} (hm : P.follows .mixedOrders = true) {f : FuncId} {fn : Func} {af : AFun} (hf : P.funcs[f]? = some fn) (hk : okFun P fn af = true) (hob : ∀ p ∈ funOb P fn af, SoundCall P p.1 p.2) : SoundCall P f (funSem af) := by
  intro ι σ w args xs Q H hargs hsem
  obtain ⟨hlen, hawp⟩ := hsem
  unfold okFun at hk
  simp only [Bool.and_eq_true, decide_eq_true_eq] at hk
  obtain ⟨⟨⟨k1, k2⟩, k3⟩, k4⟩ := hk
  split at k1
  · rename_i c hb
    unfold funOb at hob
    rw [hb] at hob
    have hl : args.length = xs.length := hargs.1
    refine calls_of_wp hf hb (awp_sound hm af.body c k1 hob (retK af σ Q) _ ?_ _ _ _ (?_ : Rep ι σ w _ _ w) hawp)
    · intro e st a w' hr h
      obtain ⟨hd, ι', β, H', B', S', T'⟩ := hr
      have done : (match resV st af.res with | some v => if af.pure then v.flat2 = true ∧ st.hp.take σ.length = σ ∧ Q v σ else Q v st.hp | none => False) → a.defers = [] ∧ ∃ v, (results fn a.tmps).run P w' = .ok v w' ∧ Done ι σ w Q (.returned v) w' := by
        intro h
        split at h
        · rename_i v hv
          obtain ⟨x, hx, hrel⟩ := res_sound H' B' S' k2 hv
          refine ⟨hd, x, hx, ?_⟩
          split at h
          · obtain ⟨h1, h2, h3⟩ := h
            obtain ⟨n1, n2⟩ := narrow H H' T' h2
            exact ⟨x, v, σ, ι', rfl, h3, fun β => (hrel β).flat h1, n1, n2⟩
          · exact ⟨x, v, st.hp, ι', rfl, h, hrel, H', T'⟩
        · exact h.elim
      cases e with
      | normal => exact done h
      | ret => exact done h
      | exit i => exact h.elim
    · refine ⟨rfl, ι, fun _ => 0, H, ⟨fun i cs hi hne => absurd (repb_get _ _ _ hi) hne, fun i cs hi hne => absurd (repb_get _ _ _ hi) hne, fun i j cs cs' _ hi _ hne => absurd (repb_get _ _ _ hi) hne, fun i cs l blk hi hne => absurd (repb_get _ _ _ hi) hne⟩, ⟨?_, fun i => ?_⟩, .refl _ _ _⟩
      · simp [reps_len]; omega
      · rw [get_eq]
        by_cases hi : i < args.length
        · rw [List.getElem?_append_left hi]
          have hi' : i < xs.length := by omega
          have e1 : args[i]? = some args[i] := List.getElem?_eq_getElem hi
          have e2 : (xs.toArray ++ Array.replicate (fn.ntmps - xs.toArray.size) Go.undef).getD i Go.undef = xs[i] := by
            rw [Array.getD_eq_getD_getElem?, Array.getElem?_append_left (by simpa using hi')]
            simp [hi']
          rw [e1, e2]
          exact hargs.2 i _ _ e1 (List.getElem?_eq_getElem hi') _
        · rw [List.getElem?_append_right (by omega), reps_get]
          exact .undef _
  · cases k1

def AllSound (P : Program) : List (FuncId × CallSem) → Prop
  | [] => True
  | [p] => SoundCall P p.1 p.2 ∧ True
  | p :: r => SoundCall P p.1 p.2 ∧ AllSound P r
theorem AllSound.mem {P : Program} : ∀ {l : List (FuncId × CallSem)}, AllSound P l → ∀ p ∈ l, SoundCall P p.1 p.2
  | [], _, p, h => by simp at h
  | [q], h, p, hp => by
    rw [List.mem_singleton] at hp
    subst hp; exact h.1
  | q :: r :: l, h, p, hp => by
    rcases List.mem_cons.1 hp with rfl | hp
    · exact h.1
    · exact AllSound.mem h.2 p hp
theorem fun_sound_of {P : Program} (hm : P.follows .mixedOrders = true) {f : FuncId} {fn : Func} {af : AFun} {obs : List (FuncId × CallSem)} (hf : P.funcs[f]? = some fn) (hk : okFun P fn af = true) (ho : funOb P fn af = obs) (hob : AllSound P obs) :
    SoundCall P f (funSem af) :=
  fun_sound hm hf hk (by rw [ho]; exact hob.mem)

end Go.Ag
