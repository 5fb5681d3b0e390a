/-
  A LAW's ROW FROM THE ABSTRACT MEANING OF ITS FUNCTION: all arguments are laid as blocks that are only read; the result is true; what lay in memory stays.
-/
import Derived.Test.YtimnnpimflgonaaAgRow
namespace Go.Ag
open Go.RowKit Go.WideShapes Go.ChangeShapes

/-- A parameter's shape, and whether its value is a struct. -/
def argTy (P : Program) (d : Nat) (t : TypeId) : Option (Ty × Bool) :=
  match tyOf P d t with
  | some ty => (match P.underlying t with
    | some (.struct _) => some (ty, true)
    | some (.int _) | some .bool | some .string | some (.slice _) => some (ty, false)
    | _ => none)
  | none => none
def argTys (P : Program) (d : Nat) : List TypeId → Option (List (Ty × Bool))
  | [] => some []
  | t :: r => match argTy P d t, argTys P d r with
    | some a, some b => some (a :: b)
    | _, _ => none

/-- An argument of such a shape. -/
def ArgOk (σ : Heap) : Ty × Bool → V → Prop
  | (ty, true), v => ∃ cs, v = .agg cs ∧ Sh σ ty cs ∧ cs.all V.cell = true
  | (ty, false), v => Sh σ ty [v] ∧ v.cell = true
def ArgsOk (σ : Heap) : List (Ty × Bool) → List V → Prop
  | [], [] => True
  | a :: r, v :: s => ArgOk σ a v ∧ ArgsOk σ r s
  | _, _ => False

theorem ArgOk.mono {σ e : Heap} {a : Ty × Bool} {v : V} (h : ArgOk σ a v) : ArgOk (σ ++ e) a v := by
  obtain ⟨ty, b⟩ := a
  cases b with
  | true => obtain ⟨cs, h1, h2, h3⟩ := h; exact ⟨cs, h1, h2.mono, h3⟩
  | false => exact ⟨h.1.mono, h.2⟩
theorem ArgOk.noBox {σ : Heap} {a : Ty × Bool} {v : V} (h : ArgOk σ a v) : ∀ i o, v ≠ .box i o := by
  obtain ⟨ty, b⟩ := a
  intro i o e
  subst e
  cases b with
  | true => obtain ⟨cs, h1, _⟩ := h; cases h1
  | false => have := h.2; cases this

section
variable {H : Type} {enc : TypeId × Value → H} {P : Program} {W : World} {r : Reach} {base : Nat}

theorem built_arg {d : Nat} {t : TypeId} {a : Ty × Bool} (ha : argTy P d t = some a) {v : Value} {dd : DataW H} {ps : List MemPlace} (h : DataW.Trod enc P W 0 (fun _ => true) true t v dd ps) (hok : Value.okWide P W r base t v)
    (ι : Inj) (σ : Heap) (H0 : HRel ι σ W) (hro : AllRo σ) :
    ∃ ι' e u, HRel ι' (σ ++ e) W ∧ Keeps ι σ ι' (σ ++ e) ∧ AllRo (σ ++ e) ∧ ArgOk (σ ++ e) a u ∧ ∀ β, Rel ι' (σ ++ e) β u v := by
  unfold argTy at ha
  split at ha
  · rename_i ty hty
    obtain ⟨fuel, hx⟩ := h
    obtain ⟨ι', e, vs, h1, h2, h3, h4, h5, h6⟩ := built_of_trod d t ty hty fuel _ _ hx ι σ H0 hro
    have one : ∀ (hc : v.cells = #[v]), a = (ty, false) → ∃ ι' e u, HRel ι' (σ ++ e) W ∧ Keeps ι σ ι' (σ ++ e) ∧ AllRo (σ ++ e) ∧ ArgOk (σ ++ e) a u ∧ ∀ β, Rel ι' (σ ++ e) β u v := by
      intro hc ea
      rw [hc] at h5 h6
      match vs, h5, h4, h6 with
      | [u], _, h4, h6 =>
        obtain ⟨c1, c2⟩ := h6 0 u v rfl rfl
        exact ⟨ι', e, u, h1, h2, h3, by rw [ea]; exact ⟨h4, c1⟩, c2⟩
    split at ha
    · rename_i fs hu
      cases ha
      obtain ⟨cs, rfl, _⟩ := okWide_struct hu hok
      replace h5 : vs.length = cs.toList.length := h5
      refine ⟨ι', e, .agg vs, h1, h2, h3, ⟨vs, rfl, h4, ?_⟩, fun β => ?_⟩
      · rw [List.all_eq_true]
        intro u hu'
        obtain ⟨i, hi⟩ := List.getElem?_of_mem hu'
        have : i < cs.toList.length := by rw [← h5]; exact get_lt hi
        exact (h6 i u _ hi (List.getElem?_eq_getElem this)).1
      · have := Rel.agg (ι := ι') (σ := σ ++ e) (β := β) vs cs.toList h5 (fun u hu' => by
          obtain ⟨i, hi⟩ := List.getElem?_of_mem hu'
          have : i < cs.toList.length := by rw [← h5]; exact get_lt hi
          exact (h6 i u _ hi (List.getElem?_eq_getElem this)).1) (fun i u w hi hw => (h6 i u w hi hw).2 β)
        simpa using this
    · rename_i k hu
      cases ha
      obtain ⟨n, rfl⟩ := okWide_int hu hok
      exact one rfl rfl
    · rename_i hu
      cases ha
      obtain ⟨n, rfl⟩ := okWide_bool hu hok
      exact one rfl rfl
    · rename_i hu
      cases ha
      obtain ⟨n, rfl⟩ := okWide_string hu hok
      exact one rfl rfl
    · rename_i el hu
      cases ha
      obtain ⟨x, y, z, rfl⟩ := okWide_slice hu hok
      exact one rfl rfl
    · cases ha
  · cases ha

theorem built_args {d : Nat} : ∀ {ts : List TypeId} {tys : List (Ty × Bool)}, argTys P d ts = some tys → ∀ {vs : List Value} {ds : List (DataW H)} {ps : List MemPlace}, DataW.TrodAll enc P W 0 (fun _ => true) true ts vs ds ps →
    (∀ (j : Nat) t v, ts[j]? = some t → vs[j]? = some v → Value.okWide P W r base t v) → ∀ (ι : Inj) (σ : Heap), HRel ι σ W → AllRo σ →
    ∃ ι' e us, HRel ι' (σ ++ e) W ∧ Keeps ι σ ι' (σ ++ e) ∧ AllRo (σ ++ e) ∧ ArgsOk (σ ++ e) tys us ∧ us.length = vs.length ∧ ∀ (i : Nat) u v, us[i]? = some u → vs[i]? = some v → (∀ j o, u ≠ .box j o) ∧ ∀ β, Rel ι' (σ ++ e) β u v
  | [], tys, h, vs, ds, ps, hd, _, ι, σ, H0, hro => by
    obtain ⟨rfl, _, _⟩ := trodAll_nil hd
    cases h
    exact ⟨ι, [], [], by simpa using H0, by simpa using Keeps.refl ι σ, by simpa using hro, trivial, rfl, by simp⟩
  | t :: ts, tys, h, vs, ds, ps, hd, hok, ι, σ, H0, hro => by
    obtain ⟨v, vs', x, ds', p, q, rfl, rfl, rfl, h1, h2⟩ := trodAll_cons hd
    unfold argTys at h
    split at h
    · rename_i a b ha hb
      cases h
      obtain ⟨ι1, e1, u, H1, K1, R1, A1, C1⟩ := built_arg ha h1 (hok 0 t v rfl rfl) ι σ H0 hro
      obtain ⟨ι2, e2, us, H2, K2, R2, A2, L2, C2⟩ := built_args hb h2 (fun j t' v' hj hv => hok (j + 1) t' v' hj hv) ι1 (σ ++ e1) H1 R1
      refine ⟨ι2, e1 ++ e2, u :: us, by rw [← List.append_assoc]; exact H2, by rw [← List.append_assoc]; exact K1.trans K2, by rw [← List.append_assoc]; exact R2, by rw [← List.append_assoc]; exact ⟨A1.mono, A2⟩, by simp [L2], fun i u' v' hu hv => ?_⟩
      rw [← List.append_assoc]
      cases i with
      | zero =>
        simp at hu hv; subst hu; subst hv
        exact ⟨A1.noBox, fun β => (C1 β).mono K2 (fun j o e => absurd e (A1.noBox j o))⟩
      | succ i => exact C2 i u' v' (by simpa using hu) (by simpa using hv)
    · cases h
end

/-- The types' bare facts, in one look. -/
def rowsOk (P : Program) (ts : List TypeId) : Bool := ts.all fun t => P.readableRec t && decide (t < P.types.size)

theorem trodAll_stays {H : Type} {enc : TypeId × Value → H} {P : Program} (hl : laidOutB P = true) {W W' : World} {sp' : Nat → Bool} : ∀ {ts : List TypeId} {vs : List Value} {ds : List (DataW H)} {ps : List MemPlace}, rowsOk P ts = true →
    DataW.TrodAll enc P W 0 (fun _ => true) true ts vs ds ps → (∀ p ∈ ps, W.sameAt W' p) → (∀ p ∈ ps, sp' p.block = true) → DataW.TrodAll enc P W' 0 sp' true ts vs ds ps
  | [], vs, ds, ps, _, h, _, _ => by
    obtain ⟨rfl, rfl, rfl⟩ := trodAll_nil h
    rfl
  | t :: ts, vs, ds, ps, hr, h, h1, h2 => by
    obtain ⟨v, vs', x, ds', p, q, rfl, rfl, rfl, g1, g2⟩ := trodAll_cons h
    unfold rowsOk at hr
    rw [List.all_cons, Bool.and_eq_true, Bool.and_eq_true, decide_eq_true_eq] at hr
    exact ⟨p, q, WideElems.Trod_stays hl hr.1.1 hr.1.2 g1 (fun y hy => h1 y (by simp [hy])) (fun y hy => h2 y (by simp [hy])), trodAll_stays hl hr.2 g2 (fun y hy => h1 y (by simp [hy])) (fun y hy => h2 y (by simp [hy])), rfl⟩

theorem post_of_under {H : Type} {enc : TypeId × Value → H} {P : Program} {f : Func} {s : ChangeSpec} {apart fresh handsOn again : Bool} {W W' : World} {args : Array Value} {v : Value} {ds gs : List (DataW H)} {before pa pv : List MemPlace}
    (hW : DataW.Whole enc P f.params.toList s.vars apart W args.toList ds gs before)
    (hres : ∀ (b : Nat) (sp : Nat → Bool) (hd : Bool), DataW.TrodAll enc P W' b sp hd f.resultTypes.toList (v.resultList f.resultTypes.size) (s.fn H (ds ++ gs)).results [])
    (hargs : ∀ sp : Nat → Bool, (∀ p ∈ before, sp p.block = true) → DataW.TrodAll enc P W' 0 sp true f.params.toList args.toList (s.fn H (ds ++ gs)).args pa)
    (hvars : ∀ sp : Nat → Bool, (∀ p ∈ before, sp p.block = true) → DataW.TrodVars enc P W' sp s.vars (s.fn H (ds ++ gs)).vars pv)
    (hps : before = pa ++ pv) (hb : Below W.heap.size W W')
    (hok : ∀ (j : Nat) (t : TypeId) (r : Value), f.resultTypes[j]? = some t → (v.resultList f.resultTypes.size)[j]? = some r → Value.okWide P W' .any 0 t r) :
    s.post enc P f apart fresh handsOn again W args v W' := by
  have hlt : ∀ p ∈ before, p.block < W.heap.size := fun p hp => hW.lt p hp
  have hold : ∀ p ∈ before, (fun b => decide (b < W.heap.size)) p.block = true := fun p hp => by simpa using hlt p hp
  refine ⟨ds, gs, before, [], pa, pv, hW, hres _ _ _, hargs _ hold, hvars _ hold, World.keptBut_mono (fun p hp => ⟨hp, ?_⟩) (hb.frame (· ∈ before)), fun _ => ?_⟩
  · rw [hps, List.mem_append] at hp
    exact Or.inr hp
  · obtain ⟨_, _, _, _, _, hz, hn⟩ := hW
    refine ⟨hok, _, _, ([] ++ pa) ++ pv, ⟨[] ++ pa, pv, trodAll_append (hargs _ (fun _ _ => rfl)) (hres _ _ _), hvars _ (fun _ _ => rfl), rfl, ?_, ?_⟩, ?_⟩
    · intro b off hp
      have hin : MemPlace.cell b off ∈ before := by rw [hps]; simpa using hp
      rw [hb.frozen (hlt _ hin)]
      exact hz b off hin
    · intro ha
      have := hn ha
      rw [hps] at this
      simpa using this
    · intro p hp _
      rw [hps]
      simpa using hp

/-- **THE ROW's CONTRACT.** -/
theorem law_contract {H : Type} {enc : TypeId × Value → H} {P : Program} {f : FuncId} {fn : Func} {s : ChangeSpec} {apart fresh handsOn again : Bool} {sem : CallSem} {tys : List (Ty × Bool)} {d : Nat} {tb : TypeId}
    (hs : SoundCall P f sem) (has : argTys P d fn.params.toList = some tys) (hrows : rowsOk P fn.params.toList = true) (hl : laidOutB P = true)
    (hres : fn.resultTypes = #[tb]) (htb : P.underlying tb = some .bool) (hvars : s.vars = [])
    (hspec : ∀ ds : List (DataW H), ds.length = tys.length → s.fn H ds = { results := [.lit (.bool true)], args := ds })
    (law : ∀ (σ : Heap) (us : List V), AllRo σ → ArgsOk σ tys us → sem us σ fun r _ => r = .bool true)
    {W : World} {base : Nat} {args : Array Value} {ds gs : List (DataW H)} {before : List MemPlace}
    (hval : ∀ (j : Nat) t v, fn.params[j]? = some t → args[j]? = some v → Value.okWide P W .any base t v)
    (hW : DataW.Whole enc P fn.params.toList s.vars apart W args.toList ds gs before) :
    Calls P f args W fun e W' => ∃ v, e = .returned v ∧ s.post enc P fn apart fresh handsOn again W args v W' := by
  have hW' := hW
  obtain ⟨p, q, hA, hV, rfl, hfz, hnd⟩ := hW
  rw [hvars] at hV
  obtain ⟨rfl, rfl⟩ := trodVars_none hV
  rw [List.append_nil] at hW'
  obtain ⟨ι, e, us, H1, _, R1, A1, L1, C1⟩ := built_args (d := d) has hA (fun j t v hj hv => hval j t v (by simpa using hj) (by simpa using hv)) (fun _ => ⟨0, 0, 0⟩) [] ⟨by simp, by simp, by simp, by simp⟩ (fun l b h => by simp at h)
  simp only [List.nil_append] at H1 R1 A1 C1
  have hc := hs ι e W us args.toList _ H1 ⟨L1, fun i u v hu hv => (C1 i u v hu hv).2⟩ (law e us R1 A1)
  have hlen : ds.length = tys.length := by
    have h1 : ∀ {ts : List TypeId} {tys : List (Ty × Bool)}, argTys P d ts = some tys → tys.length = ts.length := by
      intro ts
      induction ts with
      | nil => intro tys h; cases h; rfl
      | cons t ts ih =>
        intro tys h
        unfold argTys at h
        split at h
        · rename_i a b _ hb
          cases h
          simp [ih hb]
        · cases h
    have h2 : ∀ {ts : List TypeId} {vs : List Value} {ds : List (DataW H)} {ps : List MemPlace}, DataW.TrodAll enc P W 0 (fun _ => true) true ts vs ds ps → ds.length = ts.length := by
      intro ts
      induction ts with
      | nil => intro vs ds ps h; obtain ⟨_, rfl, _⟩ := trodAll_nil h; rfl
      | cons t ts ih =>
        intro vs ds ps h
        obtain ⟨v, vs', x, ds', p, q, rfl, rfl, rfl, _, g2⟩ := trodAll_cons h
        simp [ih g2]
    rw [h1 has, h2 hA]
  refine (Calls.mono (by simpa using hc) fun en W' hd => ?_ : Calls P f args W _)
  obtain ⟨x, r, σ', ι', rfl, rfl, hx, _, hstep⟩ := hd
  have hx' := hx (fun _ => 0)
  cases hx'
  have hb : Below W.heap.size W W' := ⟨hstep.os, hstep.tape, hstep.output, hstep.size, fun k hk => hstep.frame k hk fun l blk hl hk' => by have := R1 l blk hl; rw [hk'] at this; cases this⟩
  have hfn := hspec (ds ++ []) (by simpa using hlen)
  have hlt : ∀ x ∈ p, x.block < W.heap.size := fun x hx => hW'.lt x hx
  refine ⟨_, rfl, post_of_under (pa := p) (pv := []) hW' (fun _ _ _ => ?_) (fun sp hsp => ?_) (fun sp _ => ?_) (by simp) hb (ok_one hres rfl (okWide_bool_mk htb true))⟩
  · rw [hfn, hres]
    exact trodAll_cons_mk (shut_bool htb true) trodAll_mk0
  · rw [hfn]
    simp only [List.append_nil]
    exact trodAll_stays hl hrows hA (fun x hx => hb.same (hlt x hx)) hsp
  · rw [hfn, hvars]
    rfl
end Go.Ag
