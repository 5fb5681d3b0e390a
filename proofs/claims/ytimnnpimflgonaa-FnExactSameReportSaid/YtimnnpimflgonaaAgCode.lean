/-
  CODE AND FUNCTIONS: what the abstract meaning of a function says holds of the model's call.
-/
import Derived.Test.YtimnnpimflgonaaAgDraw
import Derived.Still
namespace Go.Ag

/-! ### A region that draws its order -/

/-- x comes directly before operation i. -/
def dir (ops : Array Oper) (i x : Nat) : Bool := match ops[i]? with | some o => o.after.any fun e => Region.binds .any e && e.on == x | none => false
def topoOK (ops : Array Oper) (seen : List Nat) : List AOper → Bool
  | [] => true
  | ao :: r => (match ops[ao.id]? with | some o => o.after.all fun e => !Region.binds .any e || seen.contains e.on | none => false) && !seen.contains ao.id && topoOK ops (ao.id :: seen) r
def ancOK (ops : Array Oper) (seen : List AOper) : List AOper → Bool
  | [] => true
  | ao :: r => (ao.anc.all fun x => dir ops ao.id x || seen.any fun bo => dir ops ao.id bo.id && bo.anc.contains x) && ancOK ops (ao :: seen) r
def pairsOK : List AOper → Bool
  | [] => true
  | p :: r => (r.all fun q => q.anc.contains p.id || swapOK p q) && pairsOK r
def okDraw (P : Program) (ops : Array Oper) (l : List AOper) : Bool :=
  l.all (okOper P ops) && l.length == ops.size && topoOK ops [] l && ancOK ops [] l && pairsOK l

section
variable {P : Program} {ops : Array Oper} {ι0 : Inj} {σ0 : Heap} {w0 : World} {Q : Exit → Act → World → Prop}

def Listed (listed : Array Bool) (x : Nat) : Prop := listed.getD x false = true
def Dirs (ops : Array Oper) (i : Nat) (S : Nat → Prop) : Prop := ∀ x, dir ops i x = true → S x
def TopoL (ops : Array Oper) (S : Nat → Prop) : List AOper → Prop
  | [] => True
  | ao :: r => Dirs ops ao.id S ∧ TopoL ops (fun x => S x ∨ x = ao.id) r

theorem TopoL.mono {S S' : Nat → Prop} (h : ∀ x, S x → S' x) : ∀ {l : List AOper}, TopoL ops S l → TopoL ops S' l
  | [], _ => trivial
  | _ :: _, ht => ⟨fun x hx => h x (ht.1 x hx), TopoL.mono (fun x hx => hx.imp (h x) id) ht.2⟩
theorem TopoL.remove {ao : AOper} : ∀ {r1 r2 : List AOper} {S : Nat → Prop}, TopoL ops S (r1 ++ ao :: r2) → TopoL ops (fun x => S x ∨ x = ao.id) (r1 ++ r2)
  | [], _, _, h => h.2
  | p :: r1, r2, S, h => by
    refine ⟨fun x hx => .inl (h.1 x hx), ?_⟩
    refine TopoL.mono ?_ (TopoL.remove (r1 := r1) (r2 := r2) h.2)
    intro x hx
    rcases hx with (hx | hx) | hx
    · exact .inl (.inl hx)
    · exact .inr hx
    · exact .inl (.inr hx)

theorem aoper_mono_nc {p : AOper} (hc : p.op.isCall = false) {k k' : St → Prop} (h : ∀ st, k st → k' st) {st : St} (ha : aoper p k st) : aoper p k' st := by
  unfold aoper at *
  have h1 : ∀ {st : St}, aop p.op p.dst k st → aop p.op p.dst k' st := by
    intro st
    cases hp : p.op <;> first | (rw [hp] at hc; simp [AOp.isCall] at hc; done) | (simp only [aop]; split <;> first | exact h _ | exact fun x => x)
  split at ha
  · exact h1 ha
  · split at ha
    · split at ha
      · rename_i hb; simp only [hb, if_true]; exact h1 ha
      · rename_i hb; simp only [if_neg hb]; exact h _ ha
    · exact h _ ha
    · exact ha.elim

theorem swapOK_nc {p q : AOper} (h : swapOK p q = true) : p.op.isCall = false := by
  unfold swapOK memOK at h
  simp only [Bool.and_eq_true, Bool.not_eq_true'] at h
  exact h.2.1.2

theorem bubble {ao : AOper} {k : St → Prop} : ∀ (r1 r2 : List AOper) (st : St), (∀ p ∈ r1, swapOK p ao = true) → aops (r1 ++ ao :: r2) k st → aoper ao (aops (r1 ++ r2) k) st
  | [], _, _, _, h => h
  | p :: r1, r2, st, hs, h => by
    have hp := hs p (by simp)
    have h1 : aoper p (aoper ao (aops (r1 ++ r2) k)) st := aoper_mono_nc (swapOK_nc hp) (fun st' h' => bubble r1 r2 st' (fun x hx => hs x (by simp [hx])) h') h
    exact aoper_swap hp h1

theorem listed_set {listed : Array Bool} {i : Nat} (h : listed.getD i true = false) (x : Nat) : Listed (listed.setIfInBounds i true) x ↔ Listed listed x ∨ x = i := by
  have hi : i < listed.size := by
    rcases Nat.lt_or_ge i listed.size with q | q
    · exact q
    · simp [Array.getD, Nat.not_lt.2 q] at h
  unfold Listed
  by_cases hx : x = i
  · subst hx; simp [Array.getD, hi]
  · simp only [hx, or_false]
    simp only [Array.getD_eq_getD_getElem?, Array.getElem?_setIfInBounds, if_neg (Ne.symm hx)]
theorem unlisted_set {listed : Array Bool} {i j : Nat} : (listed.setIfInBounds i true).getD j true = false ↔ j ≠ i ∧ listed.getD j true = false := by
  simp only [Array.getD_eq_getD_getElem?, Array.getElem?_setIfInBounds]
  by_cases hx : i = j
  · subst hx
    by_cases hs : i < listed.size
    · simp [hs]
    · simp [hs]
  · simp [if_neg hx, Ne.symm hx]
theorem listed_not {listed : Array Bool} {i : Nat} (h : listed.getD i true = false) : ¬ Listed listed i := by
  unfold Listed
  intro h2
  simp only [Array.getD_eq_getD_getElem?] at h h2
  cases hq : listed[i]? with
  | none => rw [hq] at h2; simp at h2
  | some b => rw [hq] at h h2; simp at h h2; rw [h] at h2; cases h2

theorem wpAny_sound' {k : St → Prop} (hQ : ∀ st' a' w', Rep ι0 σ0 w0 st' a' w' → k st' → Q .normal a' w') : ∀ (fuel : Nat) (l : List AOper) (listed : Array Bool) (st : St) (a : Act) (w : World),
    l.length = fuel → (∀ ao ∈ l, okOper P ops ao = true) → (∀ ao ∈ l, ∀ p ∈ callOb P ops ao, SoundCall P p.1 p.2) → (l.map (·.id)).Nodup → (∀ i, listed.getD i true = false ↔ ∃ ao ∈ l, ao.id = i) →
    TopoL ops (Listed listed) l → (∀ j, Listed listed j → Dirs ops j (Listed listed)) → (∀ S : Nat → Prop, (∀ j, S j → Dirs ops j S) → ∀ ao ∈ l, Dirs ops ao.id S → ∀ x ∈ ao.anc, S x) →
    l.Pairwise (fun p q => q.anc.contains p.id = true ∨ swapOK p q = true) → Rep ι0 σ0 w0 st a w → aops l k st → wpAny P .any ops Q fuel listed a w
  | 0, l, listed, st, a, w, hl, hok, hc, hnd, hun, ht, hcl, han, hp, hr, h => by
    have : l = [] := List.length_eq_zero_iff.1 hl
    subst this
    refine ⟨?_, hQ _ _ _ hr h⟩
    cases hq : Region.ready .any ops listed with
    | nil => rfl
    | cons i _ =>
      have hi : i ∈ Region.ready .any ops listed := by rw [hq]; simp
      have := (hun i).1 (mem_ready.1 hi).1
      simp at this
  | fuel + 1, l, listed, st, a, w, hl, hok, hc, hnd, hun, ht, hcl, han, hp, hr, h => by
    have dirsOf : ∀ {i : Nat} {o : Oper}, ops[i]? = some o → ((∀ e ∈ o.after, Region.binds .any e = true → listed.getD e.on false = true) ↔ Dirs ops i (Listed listed)) := by
      intro i o ho
      unfold Dirs dir
      rw [ho]
      simp only [Array.any_eq_true', Bool.and_eq_true, beq_iff_eq]
      constructor
      · rintro h x ⟨e, he, hb, rfl⟩; exact h e he hb
      · intro h e he hb; exact h e.on ⟨e, he, hb, rfl⟩
    refine ⟨fun hre => ?_, fun i hi => ?_⟩
    · -- the head may come up
      match l, hl with
      | ao :: r, _ =>
        exfalso
        have hun1 := (hun ao.id).2 ⟨ao, by simp, rfl⟩
        have hko := hok ao (by simp)
        unfold okOper at hko
        split at hko
        · rename_i o ho
          have : ao.id ∈ Region.ready .any ops listed := mem_ready.2 ⟨hun1, o, ho, (dirsOf ho).2 ht.1⟩
          rw [hre] at this; cases this
        · cases hko
    · obtain ⟨hi1, o, ho, hall⟩ := mem_ready.1 hi
      obtain ⟨ao, hao, rfl⟩ := (hun i).1 hi1
      obtain ⟨r1, r2, rfl⟩ := List.append_of_mem hao
      have hdir := (dirsOf ho).1 hall
      have hanc := han (Listed listed) hcl ao (by simp) hdir
      have hp' := hp
      rw [List.pairwise_append] at hp
      obtain ⟨hp1, hp2, hp3⟩ := hp
      have hsw : ∀ p ∈ r1, swapOK p ao = true := by
        intro p hpm
        rcases hp3 p hpm ao (by simp) with h1 | h1
        · exfalso
          have := hanc p.id (by simpa using h1)
          exact listed_not ((hun p.id).2 ⟨p, by simp [hpm], rfl⟩) this
        · exact h1
      have hb := bubble r1 r2 st hsw h
      refine aoper_sound (hok ao (by simp)) (hc ao (by simp)) hr hb fun st' a' w' hr' h' => ?_
      have hls := listed_set hi1
      refine wpAny_sound' hQ fuel (r1 ++ r2) (listed.setIfInBounds ao.id true) st' a' w' (by simp at hl ⊢; omega) (fun x hx => hok x (by simp at hx ⊢; rcases hx with hx | hx <;> simp [hx])) (fun x hx => hc x (by simp at hx ⊢; rcases hx with hx | hx <;> simp [hx]))
        ?_ ?_ ?_ ?_ (fun S hS x hx => han S hS x (by simp at hx ⊢; rcases hx with hx | hx <;> simp [hx])) ?_ hr' h'
      · have hsub : (r1 ++ r2).Sublist (r1 ++ ao :: r2) := List.Sublist.append (List.Sublist.refl r1) (List.sublist_cons_self ao r2)
        exact (hsub.map (·.id)).nodup hnd
      · intro j
        rw [unlisted_set, hun j]
        constructor
        · rintro ⟨hne, x, hx, rfl⟩
          refine ⟨x, ?_, rfl⟩
          simp only [List.mem_append, List.mem_cons] at hx ⊢
          rcases hx with hx | hx | hx
          · exact .inl hx
          · exact absurd (by rw [hx]) hne
          · exact .inr hx
        · rintro ⟨x, hx, rfl⟩
          refine ⟨fun e => ?_, x, by simp at hx ⊢; rcases hx with hx | hx <;> simp [hx], rfl⟩
          rw [List.map_append, List.map_cons, List.nodup_append] at hnd
          obtain ⟨n1, n2, n3⟩ := hnd
          rcases List.mem_append.1 hx with hx | hx
          · exact n3 x.id (List.mem_map_of_mem hx) ao.id (by simp) e
          · rw [List.nodup_cons] at n2
            exact n2.1 (by rw [← e]; exact List.mem_map_of_mem hx)
      · exact (TopoL.remove ht).mono fun x hx => (hls x).2 hx
      · intro j hj x hx
        rw [hls] at hj ⊢
        rcases hj with hj | rfl
        · exact .inl (hcl j hj x hx)
        · exact .inl (hdir x hx)
      · have hsub : (r1 ++ r2).Sublist (r1 ++ ao :: r2) := List.Sublist.append (List.Sublist.refl r1) (List.sublist_cons_self ao r2)
        exact hp'.sublist hsub

/-! ### The checks give what is wanted -/

theorem topo_spec : ∀ (l : List AOper) (seen : List Nat), topoOK ops seen l = true → TopoL ops (· ∈ seen) l ∧ (l.map (·.id)).Nodup ∧ (∀ ao ∈ l, ao.id ∉ seen) ∧ ∀ ao ∈ l, ao.id < ops.size
  | [], _, _ => ⟨trivial, by simp, by simp, by simp⟩
  | ao :: r, seen, h => by
    simp only [topoOK, Bool.and_eq_true, Bool.not_eq_true', List.contains_eq_mem, decide_eq_false_iff_not] at h
    obtain ⟨⟨h1, h2⟩, h3⟩ := h
    obtain ⟨i1, i2, i3, i4⟩ := topo_spec r (ao.id :: seen) h3
    split at h1
    · rename_i o ho
      refine ⟨⟨fun x hx => ?_, i1.mono fun x hx => by simpa [or_comm] using hx⟩, ?_, ?_, ?_⟩
      · unfold dir at hx
        rw [ho] at hx
        simp only [Array.any_eq_true', Bool.and_eq_true, beq_iff_eq] at hx
        obtain ⟨e, he, hb, rfl⟩ := hx
        rw [Array.all_eq_true'] at h1
        have := h1 e he
        rw [hb] at this
        simpa using this
      · rw [List.map_cons, List.nodup_cons]
        refine ⟨fun hm => ?_, i2⟩
        obtain ⟨x, hx, e⟩ := List.mem_map.1 hm
        exact i3 x hx (by rw [e]; simp)
      · intro x hx
        rcases List.mem_cons.1 hx with rfl | hx
        · exact h2
        · exact fun hm => i3 x hx (by simp [hm])
      · intro x hx
        rcases List.mem_cons.1 hx with rfl | hx
        · exact (Array.getElem?_eq_some_iff.1 ho).1
        · exact i4 x hx
    · cases h1

theorem anc_spec : ∀ (l seen : List AOper), ancOK ops seen l = true → ∀ S : Nat → Prop, (∀ j, S j → Dirs ops j S) → (∀ bo ∈ seen, Dirs ops bo.id S → ∀ x ∈ bo.anc, S x) → ∀ ao ∈ l, Dirs ops ao.id S → ∀ x ∈ ao.anc, S x
  | [], _, _, _, _, _ => by simp
  | ao :: r, seen, h, S, hS, hseen => by
    simp only [ancOK, Bool.and_eq_true] at h
    obtain ⟨h1, h2⟩ := h
    have hao : Dirs ops ao.id S → ∀ x ∈ ao.anc, S x := by
      intro hd x hx
      rw [List.all_eq_true] at h1
      have := h1 x hx
      rw [Bool.or_eq_true] at this
      rcases this with h | h
      · exact hd x h
      · rw [List.any_eq_true] at h
        obtain ⟨bo, hb, hc⟩ := h
        rw [Bool.and_eq_true] at hc
        exact hseen bo hb (hS bo.id (hd bo.id hc.1)) x (by simpa using hc.2)
    intro bo hb
    rcases List.mem_cons.1 hb with rfl | hb
    · exact hao
    · exact anc_spec r (ao :: seen) h2 S hS (fun c hc => by rcases List.mem_cons.1 hc with rfl | hc; exact hao; exact hseen c hc) bo hb

theorem pairs_spec : ∀ (l : List AOper), pairsOK l = true → l.Pairwise (fun p q => q.anc.contains p.id = true ∨ swapOK p q = true)
  | [], _ => .nil
  | p :: r, h => by
    simp only [pairsOK, Bool.and_eq_true] at h
    refine .cons (fun q hq => ?_) (pairs_spec r h.2)
    have := List.all_eq_true.1 h.1 q hq
    rwa [Bool.or_eq_true] at this

theorem rep_drew {st : St} {a : Act} {w : World} (h : Rep ι0 σ0 w0 st a w) : Rep ι0 σ0 w0 st a w.drew := by
  obtain ⟨hd, ι, β, H, B, S, T⟩ := h
  exact ⟨hd, ι, β, H.drew, B.drew, S, T.trans (Step.drew _ _ _)⟩

theorem nodup_le : ∀ (n : Nat) (l : List Nat), l.Nodup → (∀ x ∈ l, x < n) → l.length ≤ n
  | 0, l, _, h => by
    cases l with
    | nil => simp
    | cons x r => exact absurd (h x (by simp)) (by omega)
  | n + 1, l, hn, h => by
    by_cases hm : n ∈ l
    · have := nodup_le n (l.erase n) (hn.erase n) fun x hx => by
        have h1 := (List.Nodup.mem_erase_iff hn).1 hx
        have := h x h1.2
        have := h1.1
        omega
      rw [List.length_erase_of_mem hm] at this
      omega
    · have := nodup_le n l hn fun x hx => by
        have h1 := h x hx
        have : x ≠ n := fun e => hm (e ▸ hx)
        omega
      omega
theorem nodup_full {l : List Nat} {n : Nat} (h1 : l.Nodup) (h2 : l.length = n) (h3 : ∀ x ∈ l, x < n) : ∀ i, i < n → i ∈ l := by
  intro i hi
  apply Classical.byContradiction
  intro hni
  have := nodup_le n (i :: l) (List.nodup_cons.2 ⟨hni, h1⟩) fun x hx => by
    rcases List.mem_cons.1 hx with rfl | hx
    · exact hi
    · exact h3 x hx
  simp at this
  omega

/-- **WHATEVER ORDER IS DRAWN.** -/
theorem draw_sound {id : Nat} {l : List AOper} {k : St → Prop} {st : St} {a : Act} {w : World} (hm : P.follows .mixedOrders = true) (hk : okDraw P ops l = true) (hc : ∀ ao ∈ l, ∀ p ∈ callOb P ops ao, SoundCall P p.1 p.2)
    (hQ : ∀ st' a' w', Rep ι0 σ0 w0 st' a' w' → k st' → Q .normal a' w') (hr : Rep ι0 σ0 w0 st a w) (h : aops l k st) : (Code.region id ops true).wp P Q a w := by
  unfold okDraw at hk
  simp only [Bool.and_eq_true, beq_iff_eq] at hk
  obtain ⟨⟨⟨⟨k1, k2⟩, k3⟩, k4⟩, k5⟩ := hk
  obtain ⟨t1, t2, t3, t4⟩ := topo_spec l [] k3
  refine wp_region_any hm (wpAny_sound' hQ ops.size l (Array.replicate ops.size false) st a _ k2 (fun x hx => List.all_eq_true.1 k1 x hx) hc t2 (fun i => ?_) (t1.mono (by simp)) (fun j hj => ?_) (fun S hS => anc_spec l [] k4 S hS (by simp)) (pairs_spec l k5) (rep_drew hr) h)
  · constructor
    · intro hi
      have hlt : i < ops.size := by
        rcases Nat.lt_or_ge i ops.size with q | q
        · exact q
        · simp [Array.getD, Nat.not_lt.2 q] at hi
      have := nodup_full t2 (by simpa using k2) (fun x hx => by obtain ⟨y, hy, rfl⟩ := List.mem_map.1 hx; exact t4 y hy) i hlt
      obtain ⟨y, hy, rfl⟩ := List.mem_map.1 this
      exact ⟨y, hy, rfl⟩
    · rintro ⟨ao, hao, rfl⟩
      simp [Array.getD, t4 ao hao]
  · exfalso
    unfold Listed at hj
    simp only [Array.getD] at hj
    split at hj <;> simp at hj
end

/-! ### Code -/

def okCode (P : Program) : Code → ACode → Bool
  | .skip, .skip => true
  | .region _ ops draw, .region l => if draw then okDraw P ops l else l.map (·.id) == List.range ops.size && l.all (okOper P ops)
  | .seq a b, .seq a' b' => okCode P a a' && okCode P b b'
  | .cond c a b, .cond c' a' b' => okX c c' && okCode P a a' && okCode P b b'
  | .block i a, .block j a' => i == j && okCode P a a'
  | .loop a, .loop _ a' => okCode P a a'
  | .exit i, .exit j => i == j
  | .ret, .ret => true
  | _, _ => false
def codeOb (P : Program) : Code → ACode → List (FuncId × CallSem)
  | .region _ ops _, .region l => l.flatMap (callOb P ops)
  | .seq a b, .seq a' b' => codeOb P a a' ++ codeOb P b b'
  | .cond _ a b, .cond _ a' b' => codeOb P a a' ++ codeOb P b b'
  | .block _ a, .block _ a' => codeOb P a a'
  | .loop a, .loop _ a' => codeOb P a a'
  | _, _ => []

def AExit.exit' : AExit → Exit
  | .normal => .normal
  | .exit i => .exit i
  | .ret => .ret

section
variable {P : Program} {ι0 : Inj} {σ0 : Heap} {w0 : World} (hm : P.follows .mixedOrders = true)
include hm

theorem awp_sound : ∀ (ac : ACode) (c : Code), okCode P c ac = true → (∀ p ∈ codeOb P c ac, SoundCall P p.1 p.2) → ∀ (k : Kont) (Q : Exit → Act → World → Prop), (∀ e st a w, Rep ι0 σ0 w0 st a w → k e st → Q e.exit' a w) →
    ∀ (st : St) (a : Act) (w : World), Rep ι0 σ0 w0 st a w → awp ac k st → c.wp P Q a w
  | .skip, c, hk, _, k, Q, hQ, st, a, w, hr, h => by
    cases c <;> simp [okCode] at hk
    exact wp_skip (hQ .normal _ _ _ hr h)
  | .region l, c, hk, hob, k, Q, hQ, st, a, w, hr, h => by
    cases c <;> simp only [okCode, Bool.false_eq_true] at hk
    rename_i id ops draw
    have hc : ∀ ao ∈ l, ∀ p ∈ callOb P ops ao, SoundCall P p.1 p.2 := fun ao hao p hp => hob p (List.mem_flatMap.2 ⟨ao, hao, hp⟩)
    cases draw with
    | true =>
      simp only [if_true] at hk
      exact draw_sound hm hk hc (fun st' a' w' hr' h' => hQ .normal st' a' w' hr' h') hr h
    | false =>
      simp only [Bool.false_eq_true, if_false, Bool.and_eq_true, beq_iff_eq] at hk
      refine wp_region ?_
      rw [← hk.1]
      exact aops_sound (k := k .normal) (fun st' a' w' hr' h' => hQ .normal st' a' w' hr' h') l st a w (fun x hx => List.all_eq_true.1 hk.2 x hx) hc hr h
  | .seq x y, c, hk, hob, k, Q, hQ, st, a, w, hr, h => by
    cases c <;> simp only [okCode, Bool.false_eq_true] at hk
    rename_i c1 c2
    rw [Bool.and_eq_true] at hk
    refine wp_seq (awp_sound x c1 hk.1 (fun p hp => hob p (List.mem_append_left _ hp)) (seqK (awp y k) k) _ (fun e st a w hr h => ?_) st a w hr h)
    cases e with
    | normal => exact awp_sound y c2 hk.2 (fun p hp => hob p (List.mem_append_right _ hp)) k Q hQ st a w hr h
    | exit i => exact hQ (.exit i) st a w hr h
    | ret => exact hQ .ret st a w hr h
  | .cond t x y, c, hk, hob, k, Q, hQ, st, a, w, hr, h => by
    cases c <;> simp only [okCode, Bool.false_eq_true] at hk
    rename_i tt c1 c2
    simp only [Bool.and_eq_true] at hk
    have hr' := hr
    obtain ⟨hd, ι, β, H, B, S, T⟩ := hr'
    have rt := okX_rel hk.1.1 S
    simp only [awp] at h
    split at h
    · rename_i b hb
      rw [hb] at rt
      have e := rel_bool rt
      refine wp_cond_split e (fun hb => ?_) (fun hb => ?_)
      · subst hb
        exact awp_sound x c1 hk.1.2 (fun p hp => hob p (List.mem_append_left _ hp)) k Q hQ st a w hr (by simpa using h)
      · subst hb
        exact awp_sound y c2 hk.2 (fun p hp => hob p (List.mem_append_right _ hp)) k Q hQ st a w hr (by simpa using h)
    · exact h.elim
  | .block i x, c, hk, hob, k, Q, hQ, st, a, w, hr, h => by
    cases c <;> simp only [okCode, Bool.false_eq_true] at hk
    rename_i j c1
    simp only [Bool.and_eq_true, beq_iff_eq] at hk
    obtain ⟨rfl, hk⟩ := hk
    refine wp_block (awp_sound x c1 hk hob (blockK j k) _ (fun e st a w hr h => ?_) st a w hr h)
    cases e with
    | normal => exact hQ .normal st a w hr h
    | exit i =>
      simp only [blockK] at h
      simp only [AExit.exit', Exit.inBlock]
      split at h
      · rename_i e; rw [if_pos e]; exact hQ .normal st a w hr h
      · rename_i e; rw [if_neg e]; exact hQ (.exit i) st a w hr h
    | ret => exact hQ .ret st a w hr h
  | .loop live x, c, hk, hob, k, Q, hQ, st, a, w, hr, h => by
    cases c <;> simp only [okCode, Bool.false_eq_true] at hk
    rename_i c1
    obtain ⟨n, hn⟩ := h
    intro b kk cs
    have key : ∀ (n : Nat) (st : St) (a : Act) (w : World), Rep ι0 σ0 w0 st a w → iter (awp x) live k n st → ∃ e a' w', Q e a' w' ∧ Arrives P (lone (b.at a (.code c1 :: .inLoop c1 :: kk)) cs w) b kk cs e a' w' := by
      intro n
      induction n with
      | zero => intro st a w _ h; exact h.elim
      | succ n ih =>
        intro st a w hr h
        have hr2 : Rep ι0 σ0 w0 { st with sl := keep live 0 st.sl } a w := by
          obtain ⟨hd, ι, β, H, B, S, T⟩ := hr
          refine ⟨hd, ι, β, H, B, ⟨by simpa using S.1, fun i => ?_⟩, T⟩
          rcases get_keep live 0 st.sl i with e | e
          · rw [e]; exact .undef _
          · rw [e]; exact S.2 i
        have hbody := awp_sound x c1 hk hob (seqK (iter (awp x) live k n) k) (Exit.then (fun a w => ∃ st, Rep ι0 σ0 w0 st a w ∧ iter (awp x) live k n st) Q) (fun e st a w hr h => by
          cases e with
          | normal => exact ⟨st, hr, h⟩
          | exit i => exact hQ (.exit i) st a w hr h
          | ret => exact hQ .ret st a w hr h) _ a w hr2 h
        obtain ⟨e, a1, w1, hq, harr⟩ := hbody b (.inLoop c1 :: kk) cs
        cases e with
        | normal =>
          obtain ⟨st', hr', h'⟩ := hq
          obtain ⟨e2, a2, w2, hq2, harr2⟩ := ih st' a1 w1 hr' h'
          exact ⟨e2, a2, w2, hq2, .of_steps (Steps.trans harr (.one step_inLoop)) harr2⟩
        | exit id => exact ⟨_, a1, w1, hq, .pass (x := .inLoop c1) rfl (fun _ _ => .inl (by simp)) harr⟩
        | goto l => exact ⟨_, a1, w1, hq, .pass (x := .inLoop c1) rfl (fun _ _ => .inl (by simp)) harr⟩
        | ret => exact ⟨_, a1, w1, hq, .pass (x := .inLoop c1) rfl (fun _ _ => .inl (by simp)) harr⟩
        | panic ch => exact ⟨_, a1, w1, hq, .pass (x := .inLoop c1) rfl (fun _ _ => .inl (by simp)) harr⟩
        | outgrown => exact ⟨_, a1, w1, hq, .pass (x := .inLoop c1) rfl (fun _ _ => .inl (by simp)) harr⟩
    obtain ⟨e, a', w', hq, harr⟩ := key n st a w hr hn
    exact ⟨e, a', w', hq, .of_steps (.one step_loop) harr⟩
  | .exit i, c, hk, _, k, Q, hQ, st, a, w, hr, h => by
    cases c <;> simp only [okCode, Bool.false_eq_true] at hk
    rename_i j _
    have : j = i := by simpa using hk
    subst this
    exact wp_exit (hQ (.exit j) _ _ _ hr h)
  | .ret, c, hk, _, k, Q, hQ, st, a, w, hr, h => by
    cases c <;> simp [okCode] at hk
    exact wp_ret (hQ .ret _ _ _ hr h)
end
end Go.Ag
