/-
  ONE OPERATION, whatever it is: the check that an abstract operation stands for the model's, and what follows of it.
-/
import Derived.Test.YtimnnpimflgonaaAgOps7
namespace Go.Ag

def isSome (o : Option TypeDesc) : Bool := match o with | some _ => true | none => false
def isStr (o : Option TypeDesc) : Bool := match o with | some .string => true | _ => false
def isBoolT (o : Option TypeDesc) : Bool := match o with | some .bool => true | _ => false
def isIfc (o : Option TypeDesc) : Bool := match o with | some (.interface _) => true | _ => false
def isInt (o : Option TypeDesc) (k : IntKind) : Bool := match o with | some (.int k') => k' == k | _ => false
def isSl (o : Option TypeDesc) : Bool := match o with | some (.slice _) => true | _ => false
def fieldAny (P : Program) (t : TypeId) (f off : Nat) : Bool :=
  fieldOK P t f off none || (match P.underlying t with | some (.struct fs) => (match fs[f]? with | some g => fieldOK P t f off (some (P.cellsOf g.type)) | none => false) | _ => false)
def okBuild (P : Program) (t : TypeId) (parts : Array (Nat × Operand)) (zs : List V) (ps : List (Nat × Nat × Opnd)) : Bool :=
  match P.underlying t with
  | some (.struct fs) => (fs.toList.all fun f => (P.info? f.type).isSome) && okZero P t zs && okParts (fieldPlaces P fs) parts.toList ps
  | _ => false
def okLit (P : Program) (t : TypeId) (n : Nat) (parts : Array (Nat × Operand)) (w : Nat) (zs : List V) (ps : List (Nat × Nat × Opnd)) : Bool :=
  match P.underlying t with
  | some (.slice e) => (match P.info? e with
    | some i => (match i.zero with
      | some z => i.size == w && decide (n * w ≤ 2 ^ 24) && okCells (madeCells z.cells (n * w)).toList zs && okParts (fun i => some (i * w, w)) parts.toList ps && (n != 0 || ps.isEmpty)
      | none => false)
    | none => false)
  | _ => false
def okMk (P : Program) (t : TypeId) (w : Nat) (zs : List V) : Bool :=
  elemOK P t w && (match P.underlying t with | some (.slice e) => okZero P e zs | _ => false)
def sizeIs (P : Program) (t : TypeId) (n : Nat) : Bool := match P.info? t with | some i => i.size == n | none => false
def okEqA (P : Program) (t : TypeId) (n : Nat) : Bool := P.eqGuardType P.depth t == false && (match eqT P 50 t with | some (some m) => m == n | _ => false)
def okBstr (P : Program) (s d : TypeId) : Bool := isStr (P.underlying d) && (match P.underlying s with | some (.slice e) => isInt (P.underlying e) .u8 | _ => false)

/-- A call of a builtin. -/
def okBuiltin (P : Program) (b : Builtin) (args : List Operand) (ts : List TypeId) : AOp → Bool
  | .len y => (match b, args, ts with | .len, [x], [t] => isSl (P.underlying t) && okX x y | _, _, _ => false)
  | .lenT y => (match b, args, ts with | .len, [x], [t] => isStr (P.underlying t) && okX x y | _, _, _ => false)
  | .minI x' y' => (match b, args with | .min, [x, y] => okX x x' && okX y y' | _, _ => false)
  | .maxI x' y' => (match b, args with | .max, [x, y] => okX x x' && okX y y' | _, _ => false)
  | .app w x' y' => (match b, args, ts with | .append, [x, y], [t0, t1] => elemOK P t0 w && (isSl (P.underlying t1) || isStr (P.underlying t1)) && okX x x' && okX y y' | _, _, _ => false)
  | _ => false

/-- The abstract operation stands for the model's. -/
def okOp (P : Program) : Op → AOp → Bool
  | .move x, .mv y => okX x y
  | .assign x, .mv y => okX x y
  | .nilCheck x, .nilck y => okX x y
  | .pick c x y, .pick c' x' y' => okX c c' && okX x x' && okX y y'
  | .alloc t, .allocB _ zs => okZero P t zs
  | .alloc t, .allocH zs => okZero P t zs
  | .box _ x, .boxB _ _ y => okX x y
  | .box _ x, .boxH _ y => okX x y
  | .build t parts, .build zs ps => okBuild P t parts zs ps
  | .makeSlice t l c, .mkSlice w zs y => okMk P t w zs && okX l y && okX c y
  | .buildSlice t n parts, .litSlice w m zs ps => n == m && okLit P t n parts w zs ps
  | .load t x, .loadB _ n y => okVar P t n && okX x y
  | .load t x, .loadH n y => okVar P t n && okX x y
  | .store t x y, .storeB _ n x' y' => sizeIs P t n && okX x x' && okX y y'
  | .store t x y, .storeH n x' y' => sizeIs P t n && okX x x' && okX y y'
  | .binOp op _ x y _, .bin op' x' y' => op == op' && okX x x' && okX y y'
  | .binOp op t x y _, .eqB neg x' y' => op == (if neg then .neq else .eql) && isBoolT (P.underlying t) && okX x x' && okX y y'
  | .binOp op t x y _, .eqN neg x' y' => op == (if neg then .neq else .eql) && isIfc (P.underlying t) && okX x x' && okX y y'
  | .binOp op t x y _, .eqA n neg x' y' => op == (if neg then .neq else .eql) && okEqA P t n && okX x x' && okX y y'
  | .unOp op _ x, .un op' y => op == op' && okX x y
  | .convert s d x, .conv k y => isSome (P.underlying s) && isInt (P.underlying d) k && okX x y
  | .convert s d x, .bstr y => okBstr P s d && okX x y
  | .slice t x lo hi none, .slice w y lo' hi' => elemOK P t w && okX x y && okO lo lo' && okO hi hi'
  | .slice t x lo hi none, .substr y lo' hi' => isStr (P.underlying t) && okX x y && okO lo lo' && okO hi hi'
  | .fieldAddr t x f, .fieldA off y => fieldAny P t f off && okX x y
  | .field t x f, .field off n y => fieldOK P t f off n && okX x y
  | .indexAddr t x i, .indexA w x' i' => elemOK P t w && okX x x' && okX i i'
  | .index t x i, .index x' i' => isStr (P.underlying t) && okX x x' && okX i i'
  | .extract x i, .extract y j => i == j && okX x y
  | .call c, ao => (match c.callee with | .builtin b => okBuiltin P b c.args.toList c.argTypes.toList ao | _ => false)
  | _, _ => false

theorem isStr_spec {o : Option TypeDesc} (h : isStr o = true) : o = some .string := by unfold isStr at h; split at h <;> first | rfl | cases h
theorem isBoolT_spec {o : Option TypeDesc} (h : isBoolT o = true) : o = some .bool := by unfold isBoolT at h; split at h <;> first | rfl | cases h
theorem isIfc_spec {o : Option TypeDesc} (h : isIfc o = true) : ∃ ms, o = some (.interface ms) := by unfold isIfc at h; split at h <;> first | exact ⟨_, rfl⟩ | cases h
theorem isInt_spec {o : Option TypeDesc} {k : IntKind} (h : isInt o k = true) : o = some (.int k) := by unfold isInt at h; split at h <;> first | (simp at h; rw [h]) | cases h
theorem isSl_spec {o : Option TypeDesc} (h : isSl o = true) : ∃ e, o = some (.slice e) := by unfold isSl at h; split at h <;> first | exact ⟨_, rfl⟩ | cases h
theorem isSome_spec {o : Option TypeDesc} (h : isSome o = true) : o.isSome = true := by unfold isSome at h; split at h <;> first | rfl | cases h
theorem fieldAny_spec {P : Program} {t : TypeId} {f off : Nat} (h : fieldAny P t f off = true) : ∃ n, fieldOK P t f off n = true := by
  unfold fieldAny at h
  rw [Bool.or_eq_true] at h
  rcases h with h | h
  · exact ⟨_, h⟩
  · split at h
    · split at h
      · exact ⟨_, h⟩
      · cases h
    · cases h
theorem okBuild_spec {P : Program} {t : TypeId} {parts : Array (Nat × Operand)} {zs : List V} {ps : List (Nat × Nat × Opnd)} (h : okBuild P t parts zs ps = true) :
    ∃ fs, P.underlying t = some (.struct fs) ∧ (fs.toList.all fun f => (P.info? f.type).isSome) = true ∧ okZero P t zs = true ∧ okParts (fieldPlaces P fs) parts.toList ps = true := by
  unfold okBuild at h
  split at h
  · rename_i fs hf
    simp only [Bool.and_eq_true] at h
    exact ⟨fs, hf, h.1.1, h.1.2, h.2⟩
  · cases h
theorem okLit_spec {P : Program} {t : TypeId} {n w : Nat} {parts : Array (Nat × Operand)} {zs : List V} {ps : List (Nat × Nat × Opnd)} (h : okLit P t n parts w zs ps = true) :
    ∃ e i z, P.underlying t = some (.slice e) ∧ P.info? e = some i ∧ i.zero = some z ∧ i.size = w ∧ n * w ≤ 2 ^ 24 ∧ okCells (madeCells z.cells (n * w)).toList zs = true ∧ okParts (fun i => some (i * w, w)) parts.toList ps = true ∧ (n = 0 → ps = []) := by
  unfold okLit at h
  split at h
  · rename_i e he
    split at h
    · rename_i i hi
      split at h
      · rename_i z hz
        simp only [Bool.and_eq_true, beq_iff_eq, decide_eq_true_eq, Bool.or_eq_true, bne_iff_ne, ne_eq, List.isEmpty_iff] at h
        obtain ⟨⟨⟨⟨h1, h2⟩, h3⟩, h4⟩, h5⟩ := h
        exact ⟨e, i, z, he, hi, hz, h1, h2, h3, h4, fun h0 => h5.resolve_left (fun g => g h0)⟩
      · cases h
    · cases h
  · cases h
theorem sizeIs_spec {P : Program} {t : TypeId} {n : Nat} (h : sizeIs P t n = true) : ∃ i, P.info? t = some i ∧ i.size = n := by
  unfold sizeIs at h
  split at h
  · rename_i i hi; exact ⟨i, hi, by simpa using h⟩
  · cases h
theorem okEqA_spec {P : Program} {t : TypeId} {n : Nat} (h : okEqA P t n = true) : P.eqGuardType P.depth t = false ∧ eqT P 50 t = some (some n) := by
  unfold okEqA at h
  simp only [Bool.and_eq_true, beq_iff_eq] at h
  refine ⟨h.1, ?_⟩
  have h2 := h.2
  split at h2
  · rename_i m hm; simp at h2; subst h2; exact hm
  · cases h2
theorem op_neg {op : BinOp} {neg : Bool} (h : (op == (if neg then .neq else .eql)) = true) : op = if neg then .neq else .eql := by simpa using h

section
variable {P : Program} {o : Oper} {a : Act} {ι : Inj} {β : Nat → Nat} {st : St} {w0 w : World} {v : V} {bx : List (List V)} {hp : Heap}
  (H : HRel ι st.hp w) (B : BRel ι st.hp β st.bx w0 w) (S : SRel ι st.hp β st.sl a.tmps) {ι0 : Inj} {σ0 : Heap} (T : Step ι0 σ0 w0 ι st.hp w)
include H B S T

/-- **AN OPERATION THAT IS NO CALL.** -/
theorem op_sound {ao : AOp} (hk : okOp P o.op ao = true) (e : stepV ao st = some (v, bx, hp)) : Out P o a ι0 σ0 w0 w (ao.clears st.sl) v bx hp := by
  unfold okOp at hk
  split at hk
  · rename_i ho; exact op_mv H B S T (.inl ho) hk e
  · rename_i ho; exact op_mv H B S T (.inr ho) hk e
  · rename_i ho; exact op_nilck H B S T ho hk e
  · rename_i ho
    simp only [Bool.and_eq_true] at hk
    exact op_pick H B S T ho hk.1.1 hk.1.2 hk.2 e
  · rename_i ho; exact op_allocB H B S T ho hk e
  · rename_i ho; exact op_allocH H B S T ho hk e
  · rename_i ho; exact op_boxB H B S T ho hk e
  · rename_i ho; exact op_boxH H B S T ho hk e
  · rename_i ho
    obtain ⟨fs, h1, h2, h3, h4⟩ := okBuild_spec hk
    exact op_build H B S T ho h1 h2 h3 h4 e
  · rename_i ho
    simp only [Bool.and_eq_true, okMk] at hk
    obtain ⟨⟨⟨h1, h2⟩, h3⟩, h4⟩ := hk
    split at h2
    · rename_i el hel
      exact op_mkSlice H B S T ho h1 hel h2 h3 h4 e
    · cases h2
  · rename_i ho
    simp only [Bool.and_eq_true, beq_iff_eq] at hk
    obtain ⟨h0, hk⟩ := hk
    subst h0
    obtain ⟨el, i, z, h1, h2, h3, h4, h5, h6, h7, h8⟩ := okLit_spec hk
    exact op_litSlice H B S T ho h1 h2 h3 h4 h5 h6 h7 h8 e
  · rename_i ho
    simp only [Bool.and_eq_true] at hk
    exact op_loadB H B S T ho hk.1 hk.2 e
  · rename_i ho
    simp only [Bool.and_eq_true] at hk
    exact op_loadH H B S T ho hk.1 hk.2 e
  · rename_i ho
    simp only [Bool.and_eq_true] at hk
    obtain ⟨i, h1, h2⟩ := sizeIs_spec hk.1.1
    exact op_storeB H B S T ho h1 h2 hk.1.2 hk.2 e
  · rename_i ho
    simp only [Bool.and_eq_true] at hk
    obtain ⟨i, h1, h2⟩ := sizeIs_spec hk.1.1
    exact op_storeH H B S T ho h1 h2 hk.1.2 hk.2 e
  · rename_i ho
    simp only [Bool.and_eq_true, beq_iff_eq] at hk
    obtain ⟨⟨rfl, h1⟩, h2⟩ := hk
    exact op_bin H B S T ho h1 h2 e
  · rename_i ho
    simp only [Bool.and_eq_true] at hk
    exact op_eqB H B S T ho (op_neg hk.1.1.1) (isBoolT_spec hk.1.1.2) hk.1.2 hk.2 e
  · rename_i ho
    simp only [Bool.and_eq_true] at hk
    obtain ⟨ms, h⟩ := isIfc_spec hk.1.1.2
    exact op_eqN H B S T ho (op_neg hk.1.1.1) h hk.1.2 hk.2 e
  · rename_i ho
    simp only [Bool.and_eq_true] at hk
    obtain ⟨h1, h2⟩ := okEqA_spec hk.1.1.2
    exact op_eqA H B S T ho (op_neg hk.1.1.1) h1 h2 hk.1.2 hk.2 e
  · rename_i ho
    simp only [Bool.and_eq_true, beq_iff_eq] at hk
    obtain ⟨rfl, h1⟩ := hk
    exact op_un H B S T ho h1 e
  · rename_i ho
    simp only [Bool.and_eq_true] at hk
    exact op_conv H B S T ho (isSome_spec hk.1.1) (isInt_spec hk.1.2) hk.2 e
  · rename_i ho
    simp only [Bool.and_eq_true, okBstr] at hk
    obtain ⟨⟨h1, h2⟩, h3⟩ := hk
    split at h2
    · rename_i el hel
      exact op_bstr H B S T ho hel (isInt_spec h2) (isStr_spec h1) h3 e
    · cases h2
  · rename_i ho
    simp only [Bool.and_eq_true] at hk
    exact op_slice H B S T ho hk.1.1.1 hk.1.1.2 hk.1.2 hk.2 e
  · rename_i ho
    simp only [Bool.and_eq_true] at hk
    exact op_substr H B S T ho (isStr_spec hk.1.1.1) hk.1.1.2 hk.1.2 hk.2 e
  · rename_i ho
    simp only [Bool.and_eq_true] at hk
    obtain ⟨n, h⟩ := fieldAny_spec hk.1
    exact op_fieldA H B S T ho h hk.2 e
  · rename_i ho
    simp only [Bool.and_eq_true] at hk
    exact op_field H B S T ho hk.1 hk.2 e
  · rename_i ho
    simp only [Bool.and_eq_true] at hk
    exact op_indexA H B S T ho hk.1.1 hk.1.2 hk.2 e
  · rename_i ho
    simp only [Bool.and_eq_true] at hk
    exact op_index H B S T ho (isStr_spec hk.1.1) hk.1.2 hk.2 e
  · rename_i ho
    simp only [Bool.and_eq_true, beq_iff_eq] at hk
    obtain ⟨rfl, h1⟩ := hk
    exact op_extract H B S T ho h1 e
  · rename_i ho
    split at hk
    · rename_i b hb
      have arr1 : ∀ {α : Type} {x : Array α} {l : List α}, x.toList = l → x = l.toArray := fun h => by rw [← h]
      unfold okBuiltin at hk
      split at hk
      · split at hk
        · rename_i h1 h2
          simp only [Bool.and_eq_true] at hk
          obtain ⟨el, hel⟩ := isSl_spec hk.1
          exact op_lenS H B S T ho hb (arr1 h1) (arr1 h2) hel hk.2 e
        · cases hk
      · split at hk
        · rename_i h1 h2
          simp only [Bool.and_eq_true] at hk
          exact op_lenT H B S T ho hb (arr1 h1) (arr1 h2) (isStr_spec hk.1) hk.2 e
        · cases hk
      · split at hk
        · rename_i h1
          simp only [Bool.and_eq_true] at hk
          exact op_minI H B S T ho hb (arr1 h1) hk.1 hk.2 e
        · cases hk
      · split at hk
        · rename_i h1
          simp only [Bool.and_eq_true] at hk
          exact op_maxI H B S T ho hb (arr1 h1) hk.1 hk.2 e
        · cases hk
      · split at hk
        · rename_i h1 h2
          simp only [Bool.and_eq_true, Bool.or_eq_true] at hk
          obtain ⟨⟨⟨q1, q2⟩, q3⟩, q4⟩ := hk
          rcases q2 with q2 | q2
          · obtain ⟨el, hel⟩ := isSl_spec q2
            exact op_app H B S T ho hb (arr1 h1) (arr1 h2) q1 hel (.inl ⟨el, rfl⟩) q3 q4 e
          · exact op_app H B S T ho hb (arr1 h1) (arr1 h2) q1 (isStr_spec q2) (.inr rfl) q3 q4 e
        · cases hk
      · cases hk
    · cases hk
  · cases hk
end
end Go.Ag
