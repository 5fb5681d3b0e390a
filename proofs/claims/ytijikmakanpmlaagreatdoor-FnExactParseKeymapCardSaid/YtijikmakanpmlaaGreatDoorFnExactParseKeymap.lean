/-
  The function laws.FnExactParseKeymap returns true at every input, and what it was given reads behind the call as before.
  NO CONDITION. The plain law is proved over an abstract form of the code that the kernel has checked against the program's own.
-/
import Derived.Test.YtijikmakanpmlaaGreatDoorRows
import Derived.Test.YtijikmakanpmlaaGreatDoorLibG
import Derived.Test.YtijikmakanpmlaaGreatDoorDgLFnExactParseKeymap
import Derived.Test.YtijikmakanpmlaaGreatDoorCards
import Derived.Test.YtijikmakanpmlaaGreatDoorTie
import Derived.LaidMore
import Derived.Lay
import Derived.SevenTiedAt
import Derived.Stop.Joined
import Derived.Lib.LaidTab
import Derived.Shelf.Vars
import Derived.SizedLaws
import Derived.WalkKit
import Derived.ProofKit
import Derived.OpenShut
import Derived.ShutString
namespace Go.Ag
theorem laid_get {P : Program} {W : World} : ∀ {l : List (String × DataW Unit)} {ps : List MemPlace}, DataW.LaidVars P W l ps → ∀ {nm : String} {d : DataW Unit}, (nm, d) ∈ l →
    ∃ g t cs fuel p, P.globalNamed nm = some g ∧ (P.globals[g]?).map (·.type) = some t ∧ W.var? P nm = some cs ∧ DataW.trod (fun _ => ()) P W 0 (fun _ => true) false fuel t cs.toList = some (d, p)
  | [], _, _, _, _, h => by simp at h
  | (n, d0) :: r, ps, h, nm, d, hm => by
    obtain ⟨g, t, cs, fuel, p, q, h1, h2, h3, h4, h5, _⟩ := h
    rcases List.mem_cons.1 hm with e | hm
    · cases e; exact ⟨g, t, cs, fuel, p, h1, h2, h3, h4⟩
    · exact laid_get h5 hm
theorem laid_iface {P : Program} {W : World} {fuel : Nat} {t : TypeId} {cs : List Value} {nm : String} {d : DataW Unit} {p : List MemPlace} {ms} (ht : P.underlying t = some (.interface ms)) (h : DataW.trod (fun _ => ()) P W 0 (fun _ => true) false fuel t cs = some (.iface nm d, p)) : ∃ u v, cs = [.iface u v] := by
  cases fuel with
  | zero => simp [DataW.trod] at h
  | succ fuel =>
    unfold DataW.trod at h
    rw [ht] at h
    split at h <;> simp_all
theorem handed_shaped {H : Type} {enc : TypeId × Value → H} {a : Assume} {C : Checked} {os : Os} {f : FuncId} {fn : Func} {s : ChangeSpec} {conds : List PathCond} {apart fresh handsOn again : Bool} {X : World → Array Value → Prop}
    (hX : ∀ (w w' : World) (args : Array Value), w.heap = w'.heap → X w args → X w' args)
    (own : ownKnob C.prog.godebug = none) (started : os.Started) (noInit : C.prog.inits.idxOf? f = none) (hfn : C.prog.funcs[f]? = some fn)
    (witness : ∃ (w : World) (tape : Tape) (i : Input), w.os = os ∧ (w.forCall tape i).Shaped C.prog ∧ i.vars = [] ∧ Input.okWide C.prog (w.forCall tape i) .any w.heap.size f i ∧
      ((s.pre enc C.prog fn conds apart (w.forCall tape i).memory i.args ∧ X (w.forCall tape i).memory i.args) ∧ sizedMet enc C.prog fn (OpenSpec.ofChange s) apart (w.forCall tape i).memory i.args) ∧ a.holds C.prog (lone (Frame.enter C.prog f i.args .normal) [] (w.forCall tape i)))
    (contract : ∀ (W : World) (base : Nat) (args : Array Value) (ds gs : List (DataW H)) (before : List MemPlace),
      (∀ (j : Nat) t v, fn.params[j]? = some t → args[j]? = some v → Value.okWide C.prog W .any base t v) →
      DataW.Whole enc C.prog fn.params.toList s.vars apart W args.toList ds gs before → X W args → W.ShapedOpen C.prog →
      Calls C.prog f args W fun e W' => ∃ v, e = .returned v ∧ s.post enc C.prog fn apart fresh handsOn again W args v W') :
    ReturnsInHanded a C os f .any (fun w args => (s.pre enc C.prog fn conds apart w args ∧ X w args) ∧ sizedMet enc C.prog fn (OpenSpec.ofChange s) apart w args) (s.post enc C.prog fn apart fresh handsOn again) := by
  refine returnsInHanded_of_calls own started noInit witness ?_
  intro w tape i _ hsh _ hok hpre hholds
  obtain ⟨_, _, _, fn', hfn', _, _, _, _, hval⟩ := hok
  have e : fn' = fn := Option.some.inj (hfn'.symm.trans hfn)
  subst e
  obtain ⟨⟨⟨ds, gs, before, hw, hc⟩, hx⟩, hz⟩ := hpre
  have hw' := DataW.Whole.of_heap (w' := w.forCall tape i) (by rfl) hw
  refine (contract (w.forCall tape i) w.heap.size i.args ds gs before hval hw' (hX _ _ _ (by rfl) hx) hsh).mono fun e W' ⟨v, he, hp⟩ => ?_
  subst he
  exact ChangeSpec.post_blind hp
theorem law_FnExactParseKeymap (σ : Ac) (us : List V) (hro : DE σ) (ha : MW σ [(.str, false)] us) : F1.S us σ fun r _ => r = .bool true :=
  wq (f := F1.d) (hs := F1.h) (by have := iY; unfold Fn.A Fn.P at this; exact this) rfl rfl ⟨jD, Yo, YW, Yy, Yo, YW, Yy, trivial⟩ (by kernel_rfl) (fun x => by kernel_rfl) (fun x hw => by have := jb x hw; unfold Qn Qo at this; exact ⟨Eq.mp (F1.o x) this.1, (F1.v x).symm.trans this.2⟩) σ us hro ha
end Go.Ag
namespace Go.Proofs.YtijikmakanpmlaaGreatDoor
namespace fnExactParseKeymap
open Go
open Go.ChangeShapes Go.WideShapes Go.ChangeAt Go.RowKit Go.Ag

theorem own : ownKnob Tryz.prog.godebug = none := by kernel_rfl
theorem hspec (H : Type) (ds : List (DataW H)) (h : ds.length = 1) : Rows.fnExactParseKeymapSpec.fn H ds = { results := [.lit (.bool true)], args := ds } := by
  match ds, h with
  | [d0], _ => rfl

set_option maxRecDepth 100000 in
theorem glW {W : World} (hL : laidMetH Tryz.prog Rows.fnExactParseKeymapRow.laid W) (hS : W.ShapedOpen Tryz.prog) : GlW Tryz.prog W := by
  rw [MakeChecks.laidMetH_plain _ _ _ (by kernel_rfl)] at hL
  obtain ⟨ps, hL, _⟩ := hL
  intro nm hn g hg
  simp only [JK, List.mem_cons, List.not_mem_nil, or_false] at hn
  rcases hn with rfl | rfl | rfl
  · obtain ⟨g', t, cs, fuel, p, h1, h2, h3, h4⟩ := laid_get hL (nm := "strconv.ErrSyntax") (d := Rows.laid_strconv_ErrSyntax) (List.mem_of_getElem? (i := 5) rfl)
    obtain rfl := Option.some.inj ((show Tryz.prog.globalNamed "strconv.ErrSyntax" = some 3 by kernel_rfl).symm.trans h1)
    obtain rfl := Option.some.inj ((show (Tryz.prog.globals[3]?).map (·.type) = some 131 by kernel_rfl).symm.trans h2)
    obtain ⟨u, v, e⟩ := laid_iface Tryz.underlying131 h4
    refine ⟨cs, h3, ?_⟩
    unfold Lo
    rw [if_pos rfl]
    exact ⟨u, v, by rw [← Array.toArray_toList (xs := cs), e]⟩
  · obtain ⟨m, hm⟩ := Go.Proofs.cell_of_shapedOpen_int (P := Tryz.prog) (g := 0) (t := 3) (zero := #[.int .i64 0]) hS (of_decide_eq_true (by kernel_rfl)) (by kernel_rfl) rfl (by kernel_rfl) (by kernel_rfl) Tryz.underlying3
    obtain rfl := Option.some.inj ((show Tryz.prog.globalNamed "internal/bytealg.MaxLen" = some 0 by kernel_rfl).symm.trans hg)
    cases hv : W.heap[0]? with
    | none => simp [World.cell?, hv] at hm
    | some o =>
      cases o <;> simp [World.cell?, hv] at hm
      rename_i cs a b
      refine ⟨cs, by simp [World.var?, hg, hv], ?_⟩
      unfold Lo
      rw [if_neg (by decide), if_pos rfl]
      exact ⟨m, hm⟩
  · obtain ⟨g', t, cs, fuel, p, h1, h2, h3, h4⟩ := laid_get hL (nm := "internal/strconv.uint64pow10") (d := Rows.laid_internal_strconv_uint64pow10) (List.mem_of_getElem? (i := 2) rfl)
    obtain rfl := Option.some.inj ((show Tryz.prog.globalNamed "internal/strconv.uint64pow10" = some 5 by kernel_rfl).symm.trans h1)
    obtain rfl := Option.some.inj ((show (Tryz.prog.globals[5]?).map (·.type) = some 192 by kernel_rfl).symm.trans h2)
    refine ⟨cs, h3, ?_⟩
    have e := Lib.cells_of_tab (k := .u64) (zs := (List.range 20).map fun i => ((10 ^ i : Nat) : Int)) Tryz.underlying192 Tryz.underlying164 (by kernel_rfl) (by kernel_rfl) h4
    unfold Lo
    rw [if_neg (by decide), if_neg (by decide), ← Array.toArray_toList (xs := cs), e, List.map_map]
    rfl

set_option maxRecDepth 100000 in
theorem lifted (os : Os) (started : os.Started) (H : Type) (enc : TypeId × Value → H) :
    ReturnsInHanded {} Tryz.checked os 5 .any (fun w args => (Rows.fnExactParseKeymapSpec.pre enc Tryz.prog Tryz.f5 Rows.fnExactParseKeymapRow.domain false w args ∧ laidMetH Tryz.prog Rows.fnExactParseKeymapRow.laid w) ∧ sizedMet enc Tryz.prog Tryz.f5 (OpenSpec.ofChange Rows.fnExactParseKeymapSpec) false w args) (Rows.fnExactParseKeymapSpec.post enc Tryz.prog Tryz.f5 false true false false) := by
  refine handed_shaped (C := Tryz.checked) (X := fun w _ => laidMetH Tryz.prog Rows.fnExactParseKeymapRow.laid w) (fun _ _ _ hh h => h.of_heap hh) own started (by kernel_rfl) Tryz.func5
    (ChangeSpec.witness_shaped (enc := enc) (C := Tryz.checked) (os := os) (X := fun w _ => laidMetH Tryz.prog Rows.fnExactParseKeymapRow.laid w) false (World.laidAll Tryz.prog os Rows.fnExactParseKeymapRow.laid) #[.string ⟨#[]⟩] 8 (World.laidAll_os _ _ _)
      (World.shaped_of_ZipB (by kernel_rfl) (by kernel_rfl)) (by kernel_rfl) (by kernel_rfl) (by kernel_rfl)
      (by rw [MakeChecks.laidMetH_plain _ _ _ (by kernel_rfl)]; exact laidMet_laidAll _ (by kernel_rfl) (by kernel_rfl))) ?_
  intro W base args ds gs before hval hW hX hS
  exact nu (tys := [(.str, false)]) (d := 1) (tb := 4) ja (by kernel_rfl) (by kernel_rfl) (by kernel_rfl) (by kernel_rfl) Tryz.underlying4 rfl (hspec H) law_FnExactParseKeymap hval hW (glW hX hS)

theorem over : Rows.fnExactParseKeymapRow.holds Tryz.pinned (OpenSpec.ofChange Rows.fnExactParseKeymapSpec) :=
  OpenClaim.holds_of_wide 5 Tryz.f5 rfl rfl rfl rfl rfl rfl rfl ⟨rfl, rfl, rfl, rfl, rfl⟩ rfl rfl rfl rfl rfl (by kernel_rfl) Tryz.func5 (by kernel_rfl)
    (of_decide_eq_true (by kernel_rfl)) (by unfold Func.isWrapper; first | (rw [if_pos (by decide +kernel)]; kernel_rfl) | (rw [if_neg (by decide +kernel)]; exact ⟨rfl, rfl⟩))
    (fun os started H enc _ => lifted os started H enc)

theorem proved : Rows.FnExactParseKeymapCardSaid :=
  Claim7.holds_tied_plain_at .later [] [.data, .data, .data, .data, .sentinel, .sentinel, .pinned] true (true, "78dc1f9047222b56db29e358ed6cdfae8ffdea5b46ad357600ff91a3a4443d6f") true over (fun _ h => by cases h) (by kernel_rfl) (fun _ h => by cases h) fnExactParseKeymap_row_tie rfl ⟨rfl, rfl⟩ (by kernel_rfl) rfl
    (fun f fn hf hfn => by
      obtain rfl : f = 5 := Option.some.inj ((show Tryz.prog.funcNamed "loop.example/g03414/laws.FnExactParseKeymap" = some 5 by kernel_rfl).symm.trans hf) |>.symm
      obtain rfl : fn = Tryz.f5 := (Option.some.inj (Tryz.func5.symm.trans hfn)).symm
      exact ⟨by kernel_rfl, fun j t ht => by
        rw [Tryz.params5] at ht
        have hm : t ∈ [9] := by simpa using Array.mem_of_getElem? ht
        have hall : ([9].all fun u => !Tryz.prog.wantsStandIn u) = true := by kernel_rfl
        exact (show Tryz.prog.wantsStandIn t = false by simpa using List.all_eq_true.1 hall t hm)⟩)
    (by kernel_rfl)
#print axioms proved
end fnExactParseKeymap
end Go.Proofs.YtijikmakanpmlaaGreatDoor
