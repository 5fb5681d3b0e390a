/-
  WHICH OPERATIONS MAY CHANGE PLACES: 'aoper p (aoper q k) st' gives 'aoper q (aoper p k) st'.
-/
import Derived.Test.YtimnnpimflgonaaAgDefs
namespace Go.Ag

def Opnd.slots : Opnd → List Nat
  | .t n => [n]
  | .c _ => []
def oslots : Option Opnd → List Nat
  | none => []
  | some x => x.slots
def pslots : List (Nat × Nat × Opnd) → List Nat
  | [] => []
  | (_, _, x) :: r => x.slots ++ pslots r
def lslots : List Opnd → List Nat
  | [] => []
  | x :: r => x.slots ++ lslots r
/-- The slots that an operation looks at. -/
def AOp.uses : AOp → List Nat
  | .mv x | .nilck x | .boxB _ _ x | .boxH _ x | .mkSlice _ _ x | .loadB _ _ x | .loadH _ x | .un _ x | .conv _ x | .bstr x | .fieldA _ x | .field _ _ x | .len x | .lenT x | .extract x _ => x.slots
  | .pick c a b => c.slots ++ a.slots ++ b.slots
  | .allocB _ _ | .allocH _ => []
  | .build _ ps | .litSlice _ _ _ ps => pslots ps
  | .storeB _ _ a x | .storeH _ a x | .bin _ a x | .eqB _ a x | .eqN _ a x | .eqA _ _ a x | .indexA _ a x | .index a x | .app _ a x | .minI a x | .maxI a x => a.slots ++ x.slots
  | .slice _ x lo hi | .substr x lo hi => x.slots ++ oslots lo ++ oslots hi
  | .call _ args => lslots args

def Agree (ts : List Nat) (s s' : List V) : Prop := ∀ t ∈ ts, get s' t = get s t
theorem Agree.left {a b : List Nat} {s s' : List V} (h : Agree (a ++ b) s s') : Agree a s s' := fun t ht => h t (List.mem_append_left _ ht)
theorem Agree.right {a b : List Nat} {s s' : List V} (h : Agree (a ++ b) s s') : Agree b s s' := fun t ht => h t (List.mem_append_right _ ht)
theorem ev_agree {x : Opnd} {s s' : List V} (h : Agree x.slots s s') : x.ev s' = x.ev s := by
  cases x with
  | t n => exact h n (by simp [Opnd.slots])
  | c v => rfl
theorem oev_agree {x : Option Opnd} {s s' : List V} (h : Agree (oslots x) s s') : x.map (·.ev s') = x.map (·.ev s) := by
  cases x with
  | none => rfl
  | some x => simp only [Option.map_some]; rw [ev_agree h]
theorem fillA_agree {s s' : List V} : ∀ (ps : List (Nat × Nat × Opnd)) (cs : List V), Agree (pslots ps) s s' → fillA s' cs ps = fillA s cs ps
  | [], _, _ => rfl
  | (off, size, x) :: r, cs, h => by
    have h1 : x.ev s' = x.ev s := ev_agree (Agree.left h)
    simp only [fillA, h1]
    split
    · exact fillA_agree r _ (Agree.right h)
    · rfl
theorem args_agree {s s' : List V} : ∀ (xs : List Opnd), Agree (lslots xs) s s' → xs.map (·.ev s') = xs.map (·.ev s)
  | [], _ => rfl
  | x :: r, h => by simp only [List.map_cons]; rw [ev_agree (Agree.left h), args_agree r (Agree.right h)]

/-- The same operands, the same outcome. -/
theorem stepV_agree {o : AOp} {s s' : List V} {bx : List (List V)} {hp : Heap} (h : Agree o.uses s s') : stepV o ⟨s', bx, hp⟩ = stepV o ⟨s, bx, hp⟩ := by
  cases o with
  | mv x => simp only [stepV, ev_agree (x := x) h]
  | nilck x => simp only [stepV, ev_agree (x := x) h]
  | boxB i n x => simp only [stepV, ev_agree (x := x) h]
  | boxH n x => simp only [stepV, ev_agree (x := x) h]
  | mkSlice w z x => simp only [stepV, ev_agree (x := x) h]
  | loadB i n x => simp only [stepV, ev_agree (x := x) h]
  | loadH n x => simp only [stepV, ev_agree (x := x) h]
  | un op x => simp only [stepV, ev_agree (x := x) h]
  | conv k x => simp only [stepV, ev_agree (x := x) h]
  | bstr x => simp only [stepV, ev_agree (x := x) h]
  | fieldA n x => simp only [stepV, ev_agree (x := x) h]
  | field n m x => simp only [stepV, ev_agree (x := x) h]
  | len x => simp only [stepV, ev_agree (x := x) h]
  | lenT x => simp only [stepV, ev_agree (x := x) h]
  | extract x i => simp only [stepV, ev_agree (x := x) h]
  | pick c a b => simp only [stepV, ev_agree (x := c) (Agree.left (Agree.left h)), ev_agree (x := a) (Agree.right (Agree.left h)), ev_agree (x := b) (Agree.right h)]
  | allocB i zs => rfl
  | allocH zs => rfl
  | build zs ps => simp only [stepV, fillA_agree ps zs h]
  | litSlice w n zs ps => simp only [stepV, fillA_agree ps zs h]
  | storeB i n a x => simp only [stepV, ev_agree (x := a) (Agree.left h), ev_agree (x := x) (Agree.right h)]
  | storeH n a x => simp only [stepV, ev_agree (x := a) (Agree.left h), ev_agree (x := x) (Agree.right h)]
  | bin op a x => simp only [stepV, ev_agree (x := a) (Agree.left h), ev_agree (x := x) (Agree.right h)]
  | eqB neg a x => simp only [stepV, ev_agree (x := a) (Agree.left h), ev_agree (x := x) (Agree.right h)]
  | eqN neg a x => simp only [stepV, ev_agree (x := a) (Agree.left h)]
  | eqA n neg a x => simp only [stepV, ev_agree (x := a) (Agree.left h), ev_agree (x := x) (Agree.right h)]
  | indexA w a x => simp only [stepV, ev_agree (x := a) (Agree.left h), ev_agree (x := x) (Agree.right h)]
  | index a x => simp only [stepV, ev_agree (x := a) (Agree.left h), ev_agree (x := x) (Agree.right h)]
  | app w a x => simp only [stepV, ev_agree (x := a) (Agree.left h), ev_agree (x := x) (Agree.right h)]
  | minI a x => simp only [stepV, ev_agree (x := a) (Agree.left h), ev_agree (x := x) (Agree.right h)]
  | maxI a x => simp only [stepV, ev_agree (x := a) (Agree.left h), ev_agree (x := x) (Agree.right h)]
  | slice w x lo hi => simp only [stepV, ev_agree (x := x) (Agree.left (Agree.left h)), oev_agree (x := lo) (Agree.right (Agree.left h)), oev_agree (x := hi) (Agree.right h)]
  | substr x lo hi => simp only [stepV, ev_agree (x := x) (Agree.left (Agree.left h)), oev_agree (x := lo) (Agree.right (Agree.left h)), oev_agree (x := hi) (Agree.right h)]
  | call f args => rfl

/-! ### Classes -/

/-- It only reckons. -/
def AOp.isPure : AOp → Bool
  | .mv _ | .nilck _ | .pick .. | .build .. | .bin .. | .eqB .. | .eqN .. | .eqA .. | .un .. | .conv .. | .substr .. | .fieldA .. | .field .. | .indexA .. | .index .. | .len _ | .lenT _ | .minI .. | .maxI .. | .extract .. => true
  | _ => false
/-- It reads the heap. -/
def AOp.isReadH : AOp → Bool
  | .loadH .. | .slice .. | .bstr _ => true
  | _ => false
def AOp.isLoadB : AOp → Bool
  | .loadB .. => true
  | _ => false
/-- At the most it lays one new block. -/
def AOp.isPush : AOp → Bool
  | .mkSlice .. | .litSlice .. | .allocH _ | .boxH .. | .storeB .. => true
  | _ => false
def AOp.writesBox : AOp → Option Nat
  | .storeB i _ _ _ => some i
  | _ => none
def AOp.readsBox : AOp → Option Nat
  | .loadB i _ _ => some i
  | _ => none
def AOp.clearsBox : AOp → Bool
  | .allocB .. | .boxB .. => true
  | _ => false
def AOp.isCall : AOp → Bool
  | .call .. => true
  | _ => false

theorem pure_step {o : AOp} (ho : o.isPure = true) {s : List V} {bx bx1 : List (List V)} {hp hp1 : Heap} {v : V} (e : stepV o ⟨s, bx, hp⟩ = some (v, bx1, hp1)) :
    bx1 = bx ∧ hp1 = hp ∧ ∀ bx2 hp2, stepV o ⟨s, bx2, hp2⟩ = some (v, bx2, hp2) := by
  have key : ∀ bx hp, stepV o ⟨s, bx, hp⟩ = ((stepV o ⟨s, [], []⟩).map (·.1)).bind fun v => some (v, bx, hp) := by
    intro bx hp
    cases o with
    | mv x => rfl
    | nilck x => simp only [stepV]; generalize x.ev s = u; cases u <;> rfl
    | pick c a b => simp only [stepV]; generalize c.ev s = u; cases u <;> rfl
    | build zs ps =>
      simp only [stepV]
      by_cases h : zs.all V.cell = true
      · simp only [h, if_true]; cases fillA s zs ps <;> rfl
      · simp only [h]; rfl
    | bin op x y => simp only [stepV]; cases binop op (x.ev s) (y.ev s) <;> rfl
    | eqB neg x y => simp only [stepV]; generalize x.ev s = u; generalize y.ev s = t; cases u <;> cases t <;> rfl
    | eqN neg x y =>
      simp only [stepV]
      generalize x.ev s = u
      cases u <;> first | rfl | skip
      cases y with
      | t n => rfl
      | c c => cases c <;> first | rfl | (rename_i b; cases b <;> rfl)
    | eqA n neg x y =>
      simp only [stepV]
      generalize x.ev s = u
      generalize y.ev s = t
      cases u <;> cases t <;> first | rfl | skip
      rename_i a b
      by_cases h : a.length = n ∧ b.length = n
      · simp only [if_pos h]; cases eqCells a b <;> rfl
      · simp only [if_neg h]; rfl
    | un op x => simp only [stepV]; cases unop op (x.ev s) <;> rfl
    | conv k x => simp only [stepV]; generalize x.ev s = u; cases u <;> rfl
    | substr x lo hi =>
      simp only [stepV]
      generalize x.ev s = u
      cases u <;> first | rfl | skip
      rename_i t
      dsimp only
      cases boundOf 0 (lo.map (·.ev s)) with
      | none => rfl
      | some l =>
        simp only [Option.bind_some]
        cases boundOf t.length (hi.map (·.ev s)) with
        | none => rfl
        | some h =>
          simp only [Option.bind_some]
          by_cases hc : l ≤ h ∧ h ≤ t.length
          · simp only [if_pos hc]; rfl
          · simp only [if_neg hc]; rfl
    | fieldA off x => simp only [stepV]; generalize x.ev s = u; cases u <;> rfl
    | field off n x =>
      simp only [stepV]
      generalize x.ev s = u
      cases u <;> first | rfl | skip
      rename_i cs
      by_cases hc : off + n.getD 1 ≤ cs.length
      · simp only [if_pos hc]; cases aggOr n ((cs.drop off).take (n.getD 1)) <;> rfl
      · simp only [if_neg hc]; rfl
    | indexA w x i =>
      simp only [stepV]
      generalize x.ev s = u
      generalize i.ev s = t
      cases u <;> first | rfl | skip
      cases t <;> first | rfl | skip
      rename_i l q n k j
      by_cases hc : 0 ≤ j ∧ j < (n : Int)
      · simp only [if_pos hc]; rfl
      · simp only [if_neg hc]; rfl
    | index x i =>
      simp only [stepV]
      generalize x.ev s = u
      generalize i.ev s = t
      cases u <;> first | rfl | skip
      cases t <;> first | rfl | skip
      rename_i t k j
      by_cases hc : 0 ≤ j
      · simp only [if_pos hc]; cases t[j.toNat]? <;> rfl
      · simp only [if_neg hc]; rfl
    | len x => simp only [stepV]; generalize x.ev s = u; cases u <;> rfl
    | lenT x => simp only [stepV]; generalize x.ev s = u; cases u <;> rfl
    | minI x y => simp only [stepV]; generalize x.ev s = u; generalize y.ev s = t; cases u <;> first | rfl | (rename_i k _; cases k <;> first | rfl | (cases t <;> first | rfl | (rename_i k _; cases k <;> rfl)))
    | maxI x y => simp only [stepV]; generalize x.ev s = u; generalize y.ev s = t; cases u <;> first | rfl | (rename_i k _; cases k <;> first | rfl | (cases t <;> first | rfl | (rename_i k _; cases k <;> rfl)))
    | extract x i =>
      simp only [stepV]
      generalize x.ev s = u
      cases u <;> first | rfl | skip
      rename_i vs
      dsimp only
      cases vs[i]? <;> rfl
    | _ => simp [AOp.isPure] at ho
  rw [key] at e
  simp only [Option.bind_eq_some_iff] at e
  obtain ⟨u, h1, h2⟩ := e
  cases h2
  exact ⟨rfl, rfl, fun bx2 hp2 => by rw [key, h1]; rfl⟩

theorem rd_push {h : Heap} {b : Blk} {l o n : Nat} {cs : List V} (e : rd h l o n = some cs) : rd (h ++ [b]) l o n = some cs := by
  unfold rd at e ⊢
  cases hl : h[l]? with
  | none => simp [hl] at e
  | some c =>
    have hlt : l < h.length := (List.getElem?_eq_some_iff.1 hl).1
    rw [List.getElem?_append_left hlt, hl]
    rw [hl] at e
    exact e
theorem width_push {h : Heap} {b : Blk} {l w : Nat} (e : widthOf h l = some w) : widthOf (h ++ [b]) l = some w := by
  unfold widthOf at e ⊢
  cases hl : h[l]? with
  | none => simp [hl] at e
  | some c =>
    have hlt : l < h.length := (List.getElem?_eq_some_iff.1 hl).1
    rw [List.getElem?_append_left hlt, hl]
    rw [hl] at e
    exact e

/-- A reader of the heap reads the same behind one more block. -/
theorem readH_step {o : AOp} (ho : o.isReadH = true) {s : List V} {bx bx1 : List (List V)} {hp hp1 : Heap} {v : V} (e : stepV o ⟨s, bx, hp⟩ = some (v, bx1, hp1)) :
    bx1 = bx ∧ hp1 = hp ∧ ∀ bx2 hp2, (hp2 = hp ∨ ∃ b, hp2 = hp ++ [b]) → stepV o ⟨s, bx2, hp2⟩ = some (v, bx2, hp2) := by
  cases o with
  | loadH n x =>
    simp only [stepV] at e ⊢
    generalize x.ev s = u at *
    cases u <;> simp only [Option.bind_eq_some_iff, reduceCtorEq] at e
    obtain ⟨cs, e1, u, e2, e3⟩ := e
    cases e3
    refine ⟨rfl, rfl, fun bx2 hp2 h => ?_⟩
    rcases h with rfl | ⟨b, rfl⟩
    · simp [e1, e2]
    · simp [rd_push e1, e2]
  | slice w x lo hi =>
    simp only [stepV] at e ⊢
    generalize x.ev s = u at *
    cases u <;> simp only [Option.bind_eq_some_iff, reduceCtorEq] at e
    · obtain ⟨l, e1, h, e2, e3⟩ := e
      split at e3
      · rename_i hc
        cases e3
        refine ⟨rfl, rfl, fun bx2 hp2 _ => ?_⟩
        simp [e1, e2, hc]
      · cases e3
    · obtain ⟨l, e1, h, e2, e3⟩ := e
      split at e3
      · rename_i hc
        obtain ⟨c1, c2, c3⟩ := hc
        cases e3
        refine ⟨rfl, rfl, fun bx2 hp2 hh => ?_⟩
        rcases hh with rfl | ⟨b, rfl⟩
        · simp [e1, e2, c1, c2, c3]
        · simp [e1, e2, c1, c2, width_push c3]
      · cases e3
  | bstr x =>
    simp only [stepV] at e ⊢
    generalize x.ev s = u at *
    cases u <;> simp only [Option.bind_eq_some_iff, reduceCtorEq] at e
    · cases e
      exact ⟨rfl, rfl, fun _ _ _ => rfl⟩
    · obtain ⟨cs, e1, u, e2, e3⟩ := e
      cases e3
      refine ⟨rfl, rfl, fun bx2 hp2 h => ?_⟩
      rcases h with rfl | ⟨b, rfl⟩
      · simp [e1, e2]
      · simp [rd_push e1, e2]
  | _ => simp [AOp.isReadH] at ho

theorem loadB_step {i : Nat} {n : Option Nat} {x : Opnd} {s : List V} {bx bx1 : List (List V)} {hp hp1 : Heap} {v : V} (e : stepV (.loadB i n x) ⟨s, bx, hp⟩ = some (v, bx1, hp1)) :
    bx1 = bx ∧ hp1 = hp ∧ ∀ bx2 hp2, getB bx2 i = getB bx i → stepV (.loadB i n x) ⟨s, bx2, hp2⟩ = some (v, bx2, hp2) := by
  simp only [stepV] at e ⊢
  generalize x.ev s = u at *
  cases u <;> simp only [reduceCtorEq] at e
  split at e
  · rename_i hc
    simp only [Option.bind_eq_some_iff] at e
    obtain ⟨u, e1, e2⟩ := e
    cases e2
    refine ⟨rfl, rfl, fun bx2 hp2 h => ?_⟩
    simp only [h, if_pos hc, e1]
    rfl
  · cases e

/-- What an operation does to the heap and to the boxes, at the most. -/
theorem push_eff {o : AOp} (ho : o.isPush = true) {s : List V} {bx bx1 : List (List V)} {hp hp1 : Heap} {v : V} (e : stepV o ⟨s, bx, hp⟩ = some (v, bx1, hp1)) :
    (hp1 = hp ∨ ∃ b, hp1 = hp ++ [b]) ∧ ∀ i, o.writesBox ≠ some i → getB bx1 i = getB bx i := by
  cases o with
  | mkSlice w z x =>
    simp only [stepV] at e
    split at e
    · split at e
      · split at e
        · cases e; exact ⟨.inl rfl, fun _ _ => rfl⟩
        · cases e; exact ⟨.inr ⟨_, rfl⟩, fun _ _ => rfl⟩
      · cases e
    · cases e
  | litSlice w n zs ps =>
    simp only [stepV] at e
    split at e
    · cases e; exact ⟨.inl rfl, fun _ _ => rfl⟩
    · split at e
      · simp only [Option.bind_eq_some_iff] at e
        obtain ⟨cs, _, e⟩ := e
        cases e; exact ⟨.inr ⟨_, rfl⟩, fun _ _ => rfl⟩
      · cases e
  | allocH zs =>
    simp only [stepV] at e
    split at e
    · cases e; exact ⟨.inr ⟨_, rfl⟩, fun _ _ => rfl⟩
    · cases e
  | boxH n x =>
    simp only [stepV] at e
    split at e
    · cases e; exact ⟨.inr ⟨_, rfl⟩, fun _ _ => rfl⟩
    · cases e
  | storeB i n a x =>
    simp only [stepV] at e
    split at e
    · split at e
      · cases e
        refine ⟨.inl rfl, fun j hj => ?_⟩
        have hne : j ≠ i := fun h => hj (by rw [h]; rfl)
        have : ∀ (s : List (List V)) (n m : Nat) (v : List V), m ≠ n → getB (putB s n v) m = getB s m := by
          intro s
          induction s with
          | nil => intros; rfl
          | cons x r ih =>
            intro n m v h
            cases n with
            | zero => cases m with
              | zero => exact absurd rfl h
              | succ m => rfl
            | succ n => cases m with
              | zero => rfl
              | succ m => exact ih n m v (by omega)
        exact this _ _ _ _ hne
      · cases e
    · cases e
  | _ => simp [AOp.isPush] at ho

end Go.Ag
