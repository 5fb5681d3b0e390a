/-
  FROM THE ROW TO THE ABSTRACT STATE: what arguments of numbers, bools, strings, slices and structs read as becomes blocks that are only read.
-/
import Derived.Test.YtmjjamfkgingcaaLibA
import Derived.WalkKit
import Derived.ProofKit
import Derived.OpenShut
import Derived.Carry
import Derived.ChangeSame
import Derived.Test.YtmjjamfkgingcaaLibE
namespace Go.Ag
set_option linter.unusedSimpArgs false
set_option linter.unusedVariables false
open Go.RowKit Go.WideShapes Go.ChangeShapes

/-- The shape of a type. -/
inductive Ty where
  | int (k : IntKind)
  | bool
  | str
  | sl (t : Ty)
  | unit
  | pair (a b : Ty)
def Ty.w : Ty → Nat
  | .int _ | .bool | .str | .sl _ => 1
  | .unit => 0
  | .pair a b => a.w + b.w

def tyFs (P : Program) (f : TypeId → Option Ty) : List Field → Nat → Option Ty
  | [], _ => some .unit
  | g :: r, off =>
    match f g.type with
    | some a => if g.offset = off ∧ a.w = P.cellsOf g.type then (match tyFs P f r (off + a.w) with | some b => some (.pair a b) | none => none) else none
    | none => none
def tyOf (P : Program) : Nat → TypeId → Option Ty
  | 0, _ => none
  | d + 1, t =>
    match P.underlying t with
    | some (.int k) => some (.int k)
    | some .bool => some .bool
    | some .string => some .str
    | some (.slice e) => (match tyOf P d e with | some te => if te.w = P.cellsOf e ∧ 0 < te.w then some (.sl te) else none | none => none)
    | some (.struct fs) => (match tyFs P (tyOf P d) fs.toList 0 with | some ty => if ty.w = P.cellsOf t then some ty else none | none => none)
    | _ => none

/-- Cells of such a shape. -/
def Sh (σ : Heap) : Ty → List V → Prop
  | .int k, cs => ∃ n, cs = [.int k n] ∧ (Lit.int k n).wf = true
  | .bool, cs => ∃ b, cs = [.bool b]
  | .str, cs => ∃ s, cs = [.str s] ∧ s.length ≤ maxLen
  | .sl t, cs => cs = [.nils] ∨ ∃ (l n : Nat) (bs : List V), cs = [.slice l 0 n] ∧ σ[l]? = some ⟨.ro, t.w, bs⟩ ∧ bs.length = n * t.w ∧ n ≤ maxLen ∧ ∀ i, i < n → Sh σ t ((bs.drop (i * t.w)).take t.w)
  | .unit, cs => cs = []
  | .pair a b, cs => ∃ xs ys, cs = xs ++ ys ∧ Sh σ a xs ∧ Sh σ b ys

theorem Sh.len {σ : Heap} : ∀ {ty : Ty} {cs : List V}, Sh σ ty cs → cs.length = ty.w
  | .int _, _, ⟨_, h, _⟩ => by rw [h]; rfl
  | .bool, _, ⟨_, h⟩ => by rw [h]; rfl
  | .str, _, ⟨_, h, _⟩ => by rw [h]; rfl
  | .sl _, _, h => by rcases h with h | ⟨_, _, _, h, _⟩ <;> rw [h] <;> rfl
  | .unit, _, h => by rw [h]; rfl
  | .pair a b, _, ⟨xs, ys, h, h1, h2⟩ => by rw [h, List.length_append, h1.len, h2.len]; rfl
theorem Sh.mono {σ e : Heap} : ∀ {ty : Ty} {cs : List V}, Sh σ ty cs → Sh (σ ++ e) ty cs
  | .int _, _, h => h
  | .bool, _, h => h
  | .str, _, h => h
  | .sl _, _, h => by
    rcases h with h | ⟨l, n, bs, h, h1, h2, h3, h4⟩
    · exact .inl h
    · exact .inr ⟨l, n, bs, h, by rw [List.getElem?_append_left (get_len h1)]; exact h1, h2, h3, fun i hi => (h4 i hi).mono⟩
  | .unit, _, h => h
  | .pair _ _, _, ⟨xs, ys, h, h1, h2⟩ => ⟨xs, ys, h, h1.mono, h2.mono⟩

def AllRo (σ : Heap) : Prop := ∀ (l : Nat) (b : Blk), σ[l]? = some b → b.k = .ro
/-- What the arguments add to the abstract heap. -/
def Built (ι : Inj) (σ : Heap) (W : World) (ty : Ty) (cs : List Value) : Prop :=
  ∃ ι' e vs, HRel ι' (σ ++ e) W ∧ Keeps ι σ ι' (σ ++ e) ∧ AllRo (σ ++ e) ∧ Sh (σ ++ e) ty vs ∧ vs.length = cs.length ∧ ∀ (i : Nat) v x, vs[i]? = some v → cs[i]? = some x → v.cell = true ∧ ∀ β, Rel ι' (σ ++ e) β v x

theorem mapM_mem {α β : Type} {f : α → Option β} : ∀ {l : List α} {ys : List β}, l.mapM f = some ys → ∀ x ∈ l, ∃ y, f x = some y
  | [], _, _ => by simp
  | a :: l, ys, h => by
    rw [List.mapM_cons] at h
    simp only [Option.bind_eq_bind, Option.bind_eq_some_iff] at h
    obtain ⟨y, h1, ys', h2, _⟩ := h
    intro x hx
    rcases List.mem_cons.1 hx with rfl | hx
    · exact ⟨y, h1⟩
    · exact mapM_mem h2 x hx

/-- A block that is only read is laid over memory that is there. -/
theorem HRel.lay {ι : Inj} {σ : Heap} {W : World} (h : HRel ι σ W) (hro : AllRo σ) {b off c : Nat} {wd : Nat} {bs : List V} (hb : b < W.heap.size) (hc : ∀ (i : Nat) v, bs[i]? = some v → v.cell = true ∧ ∃ x, W.cell? ⟨b, off + i, none⟩ = some x ∧ ∀ β, Rel ι σ β v x) :
    HRel (upd ι σ.length ⟨b, off, c⟩) (σ ++ [⟨.ro, wd, bs⟩]) W ∧ AllRo (σ ++ [⟨.ro, wd, bs⟩]) := by
  have K := keeps_push ι σ ⟨b, off, c⟩ ⟨.ro, wd, bs⟩
  have hall : AllRo (σ ++ [⟨.ro, wd, bs⟩]) := by
    intro l blk hl
    rcases push_get hl with ⟨_, hl⟩ | ⟨_, rfl⟩
    · exact hro l blk hl
    · rfl
  refine ⟨⟨fun l blk hl hk i v hv => ?_, fun l blk hl hk => ?_, fun l l' blk blk' hne hl hl' hk hk' => ?_, fun l blk hl hk => ?_⟩, hall⟩
  · rcases push_get hl with ⟨hlt, hl⟩ | ⟨rfl, rfl⟩
    · rw [upd_other _ _ _ _ (by omega)]
      obtain ⟨a, x, b', c⟩ := h.cells l blk hl hk i v hv
      exact ⟨a, x, b', fun β => (c β).cellMono K a⟩
    · rw [upd_same]
      obtain ⟨a, x, b', c⟩ := hc i v hv
      exact ⟨a, x, b', fun β => (c β).cellMono K a⟩
  · have := hall l blk hl; rw [hk] at this; cases this
  · have := hall l blk hl; rw [hk] at this; cases this
  · rcases push_get hl with ⟨hlt, hl⟩ | ⟨rfl, rfl⟩
    · rw [upd_other _ _ _ _ (by omega)]; exact h.there l blk hl hk
    · rw [upd_same]; exact hb

theorem cell_block_lt {w : World} {a : Addr} {v : Value} (h : w.cell? a = some v) : a.block < w.heap.size := by
  unfold World.cell? at h
  rcases Nat.lt_or_ge a.block w.heap.size with h1 | h1
  · exact h1
  · rw [Array.getElem?_eq_none h1] at h; cases h

theorem get_lt {α : Type} {l : List α} {i : Nat} {v : α} (h : l[i]? = some v) : i < l.length := by
  rcases Nat.lt_or_ge i l.length with h1 | h1
  · exact h1
  · rw [List.getElem?_eq_none h1] at h; cases h

section
variable {H : Type} {enc : TypeId × Value → H} {P : Program} {W : World}

theorem built_fields (d : Nat) (ih : ∀ (t : TypeId) (ty : Ty), tyOf P d t = some ty → ∀ (fuel : Nat) (cs : List Value) x, DataW.trod enc P W 0 (fun _ => true) true fuel t cs = some x → ∀ (ι : Inj) (σ : Heap), HRel ι σ W → AllRo σ → Built ι σ W ty cs) :
    ∀ (fs : List Field) (off : Nat) (ty : Ty), tyFs P (tyOf P d) fs off = some ty → ∀ (fuel : Nat) (cs : List Value), (∀ g ∈ fs, ∃ x, DataW.trod enc P W 0 (fun _ => true) true fuel g.type ((cs.drop g.offset).take (P.cellsOf g.type)) = some x) →
      off + ty.w = cs.length → ∀ (ι : Inj) (σ : Heap), HRel ι σ W → AllRo σ → Built ι σ W ty (cs.drop off)
  | [], off, ty, h, fuel, cs, _, hl, ι, σ, H, hro => by
    simp only [tyFs, Option.some.injEq] at h
    subst h
    simp only [Ty.w, Nat.add_zero] at hl
    have : cs.drop off = [] := by rw [hl]; simp
    rw [this]
    exact ⟨ι, [], [], by simpa using H, by simpa using Keeps.refl ι σ, by simpa using hro, rfl, rfl, by simp⟩
  | g :: r, off, ty, h, fuel, cs, hg, hl, ι, σ, H, hro => by
    simp only [tyFs] at h
    split at h
    · rename_i a ha
      split at h
      · rename_i hc
        obtain ⟨h1, h2⟩ := hc
        split at h
        · rename_i b hb
          cases h
          simp only [Ty.w] at hl
          obtain ⟨x, hx⟩ := hg g (by simp)
          rw [h1] at hx
          obtain ⟨ι1, e1, vs1, H1, K1, R1, S1, L1, C1⟩ := ih g.type a ha fuel _ x hx ι σ H hro
          obtain ⟨ι2, e2, vs2, H2, K2, R2, S2, L2, C2⟩ := built_fields d ih r (off + a.w) b hb fuel cs (fun g' hg' => hg g' (by simp [hg'])) (by omega) ι1 (σ ++ e1) H1 R1
          refine ⟨ι2, e1 ++ e2, vs1 ++ vs2, by rw [← List.append_assoc]; exact H2, by rw [← List.append_assoc]; exact K1.trans K2, by rw [← List.append_assoc]; exact R2, ⟨vs1, vs2, rfl, by rw [← List.append_assoc]; exact S1.mono, by rw [← List.append_assoc]; exact S2⟩, ?_, fun i v y hv hy => ?_⟩
          · rw [List.length_append, L1, L2]
            simp; omega
          · have hl1 : vs1.length = a.w := S1.len
            by_cases hi : i < vs1.length
            · rw [List.getElem?_append_left hi] at hv
              have hy' : ((cs.drop off).take (P.cellsOf g.type))[i]? = some y := by
                rw [List.getElem?_take, if_pos (by omega)]; exact hy
              obtain ⟨q1, q2⟩ := C1 i v y hv hy'
              exact ⟨q1, fun β => by rw [← List.append_assoc]; exact (q2 β).cellMono K2 q1⟩
            · rw [List.getElem?_append_right (by omega)] at hv
              have hy' : (cs.drop (off + a.w))[i - vs1.length]? = some y := by
                rw [List.getElem?_drop] at hy ⊢
                have : off + a.w + (i - vs1.length) = off + i := by omega
                rw [this]; exact hy
              obtain ⟨q1, q2⟩ := C2 _ v y hv hy'
              exact ⟨q1, fun β => by rw [← List.append_assoc]; exact q2 β⟩
        · cases h
      · cases h
    · cases h

theorem add_off {b o : Nat} (n : Nat) : Addr.add ⟨b, o, none⟩ n = ⟨b, o + n, none⟩ := by
  unfold Addr.add
  split
  · rename_i h; subst h; rfl
  · rfl

theorem built_elems {d : Nat} (ih : ∀ (t : TypeId) (ty : Ty), tyOf P d t = some ty → ∀ (fuel : Nat) (cs : List Value) x, DataW.trod enc P W 0 (fun _ => true) true fuel t cs = some x → ∀ (ι : Inj) (σ : Heap), HRel ι σ W → AllRo σ → Built ι σ W ty cs)
    {e : TypeId} {te : Ty} (hte : tyOf P d e = some te) (hw : te.w = P.cellsOf e) {fuel b o : Nat} :
    ∀ (n : Nat), (∀ i, i < n → ∃ cs x, W.cells? 0 ⟨b, o + i * te.w, none⟩ te.w = some cs ∧ DataW.trod enc P W 0 (fun _ => true) true fuel e cs = some x) → ∀ (ι : Inj) (σ : Heap), HRel ι σ W → AllRo σ →
      ∃ (ι' : Inj) (ext : Heap) (bs : List V), HRel ι' (σ ++ ext) W ∧ Keeps ι σ ι' (σ ++ ext) ∧ AllRo (σ ++ ext) ∧ bs.length = n * te.w ∧ (∀ i, i < n → Sh (σ ++ ext) te ((bs.drop (i * te.w)).take te.w)) ∧
        ∀ (j : Nat) v, bs[j]? = some v → v.cell = true ∧ ∃ x, W.cell? ⟨b, o + j, none⟩ = some x ∧ ∀ β, Rel ι' (σ ++ ext) β v x
  | 0, _, ι, σ, H0, hro => ⟨ι, [], [], by simpa using H0, by simpa using Keeps.refl ι σ, by simpa using hro, by simp, fun i hi => absurd hi (Nat.not_lt_zero i), by simp⟩
  | n + 1, hn, ι, σ, H0, hro => by
    obtain ⟨ι1, e1, bs, H1, K1, R1, L1, S1, C1⟩ := built_elems ih hte hw n (fun i hi => hn i (Nat.lt_succ_of_lt hi)) ι σ H0 hro
    obtain ⟨cs, x, hc, hx⟩ := hn n (Nat.lt_succ_self n)
    obtain ⟨ι2, e2, vs, H2, K2, R2, S2, L2, C2⟩ := ih e te hte fuel cs x hx ι1 (σ ++ e1) H1 R1
    obtain ⟨_, hcl, hcg⟩ := World.cells?_some hc
    refine ⟨ι2, e1 ++ e2, bs ++ vs, by rw [← List.append_assoc]; exact H2, by rw [← List.append_assoc]; exact K1.trans K2, by rw [← List.append_assoc]; exact R2, ?_, fun i hi => ?_, fun j v hv => ?_⟩
    · rw [List.length_append, L1, L2, hcl, Nat.succ_mul]
    · rw [← List.append_assoc]
      by_cases h : i < n
      · have h1 : (i + 1) * te.w ≤ n * te.w := Nat.mul_le_mul_right _ h
        rw [Nat.succ_mul] at h1
        have : ((bs ++ vs).drop (i * te.w)).take te.w = (bs.drop (i * te.w)).take te.w := by
          rw [List.drop_append_of_le_length (by omega), List.take_append_of_le_length (by rw [List.length_drop]; omega)]
        rw [this]
        exact (S1 i h).mono
      · have : i = n := by omega
        subst this
        have : ((bs ++ vs).drop (i * te.w)).take te.w = vs := by
          rw [← L1, List.drop_left, List.take_of_length_le (by omega)]
        rw [this]
        exact S2
    · by_cases h : j < bs.length
      · rw [List.getElem?_append_left h] at hv
        obtain ⟨q1, y, q2, q3⟩ := C1 j v hv
        exact ⟨q1, y, q2, fun β => by rw [← List.append_assoc]; exact (q3 β).cellMono K2 q1⟩
      · rw [List.getElem?_append_right (by omega)] at hv
        have hlt := get_lt hv
        have hlt' : j - bs.length < te.w := by rw [← hcl, ← L2]; exact hlt
        have hg := hcg (j - bs.length) hlt'
        rw [add_off] at hg
        have e0 : o + n * te.w + (j - bs.length) = o + j := by omega
        rw [e0] at hg
        obtain ⟨y, hy⟩ : ∃ y, cs[j - bs.length]? = some y := ⟨_, List.getElem?_eq_getElem (by omega)⟩
        obtain ⟨q1, q2⟩ := C2 _ v y hv hy
        exact ⟨q1, y, hg.trans hy, fun β => by rw [← List.append_assoc]; exact q2 β⟩

theorem built_of_trod : ∀ (d : Nat) (t : TypeId) (ty : Ty), tyOf P d t = some ty → ∀ (fuel : Nat) (cs : List Value) x, DataW.trod enc P W 0 (fun _ => true) true fuel t cs = some x → ∀ (ι : Inj) (σ : Heap), HRel ι σ W → AllRo σ → Built ι σ W ty cs
  | 0, _, _, h => by simp [tyOf] at h
  | d + 1, t, ty, h => by
    intro fuel cs x hx ι σ H0 hro
    have one : ∀ (v : V) (y : Value), cs = [y] → v.cell = true → (∀ β, Rel ι σ β v y) → Sh σ ty [v] → Built ι σ W ty cs := by
      intro v y hc hv hr hs
      refine ⟨ι, [], [v], by simpa using H0, by simpa using Keeps.refl ι σ, by simpa using hro, by simpa using hs, by rw [hc]; rfl, fun i u z hu hz => ?_⟩
      rw [hc] at hz
      cases i with
      | zero => simp at hu hz; subst hu; subst hz; exact ⟨hv, by simpa using hr⟩
      | succ i => simp at hu
    unfold tyOf at h
    split at h
    · rename_i k hu
      cases h
      obtain ⟨n, hc, _, hwf⟩ := DataW.trod_int hu hx
      exact one (.int k n) _ hc rfl (fun β => .int k n) ⟨n, rfl, hwf⟩
    · rename_i hu
      cases h
      obtain ⟨b, hc, _⟩ := DataW.trod_bool hu hx
      exact one (.bool b) _ hc rfl (fun β => .bool b) ⟨b, rfl⟩
    · rename_i hu
      cases h
      obtain ⟨s, hc, _, hwf⟩ := DataW.trod_string hu hx
      exact one (.str s.data.toList) _ hc rfl (fun β => by have := Rel.str (ι := ι) (σ := σ) (β := β) s.data.toList; simpa using this) ⟨s.data.toList, rfl, by simpa using hwf⟩
    · rename_i e hu
      split at h
      · rename_i te hte
        split at h
        · rename_i hw
          obtain ⟨hw, hpos⟩ := hw
          cases h
          rcases DataW.trod_slice hu hx with ⟨hc, _⟩ | ⟨a, len, cap, elems, rest, n, _, hc, _, _, hle, hcap, hel, hE, hR, _⟩
          · exact one .nils _ hc rfl (fun β => .nils none) (.inl rfl)
          · obtain ⟨hrl, hR⟩ := hR rfl
            have hcell : ∀ i, i < cap → ∃ cs' y, W.cells? 0 (a.add (i * P.cellsOf e)) (P.cellsOf e) = some cs' ∧ DataW.trod enc P W 0 (fun _ => true) true n e cs' = some y := by
              intro i hi
              by_cases h : i < len
              · have h1 := hE i h
                obtain ⟨y, hy⟩ : ∃ y, elems[i]? = some y := ⟨_, List.getElem?_eq_getElem (by omega)⟩
                rw [hy, Option.bind_eq_some_iff] at h1
                obtain ⟨cs', h1, h2⟩ := h1
                exact ⟨cs', y, h1, h2⟩
              · have h1 := hR (i - len) (by omega)
                obtain ⟨y, hy⟩ : ∃ y, rest[i - len]? = some y := ⟨_, List.getElem?_eq_getElem (by omega)⟩
                rw [hy, Option.bind_eq_some_iff] at h1
                obtain ⟨cs', h1, h2⟩ := h1
                rw [show len + (i - len) = i by omega] at h1
                exact ⟨cs', y, h1, h2⟩
            by_cases hc0 : cap = 0
            · subst hc0
              have : len = 0 := by omega
              subst this
              exact one .nils _ hc rfl (fun β => .nils (some a)) (.inl rfl)
            · have hsp : a.spot = none ∧ a.block < W.heap.size := by
                obtain ⟨cs', y, h1, _⟩ := hcell 0 (by omega)
                obtain ⟨_, h2, h3⟩ := World.cells?_some h1
                have h4 := h3 0 (by omega)
                obtain ⟨z, hz⟩ : ∃ z, cs'[0]? = some z := ⟨_, List.getElem?_eq_getElem (by omega)⟩
                rw [hz] at h4
                have h5 : W.cell? a = some z := by simpa [Addr.add] using h4
                exact ⟨World.cell?_spot h5, cell_block_lt h5⟩
              obtain ⟨ab, ao, asp⟩ := a
              obtain ⟨hsp, hlt⟩ := hsp
              simp only at hsp hlt
              subst hsp
              have hcell' : ∀ i, i < len → ∃ cs' y, W.cells? 0 ⟨ab, ao + i * te.w, none⟩ te.w = some cs' ∧ DataW.trod enc P W 0 (fun _ => true) true n e cs' = some y := by
                intro i hi
                have := hcell i (by omega)
                rw [add_off, ← hw] at this
                exact this
              obtain ⟨ι1, e1, bs, H1, K1, R1, L1, S1, C1⟩ := built_elems (built_of_trod d) hte hw len hcell' ι σ H0 hro
              obtain ⟨H2, R2⟩ := H1.lay R1 (c := cap * te.w) (wd := te.w) hlt C1
              have K2 := keeps_push ι1 (σ ++ e1) ⟨ab, ao, cap * te.w⟩ ⟨.ro, te.w, bs⟩
              have hg : ((σ ++ e1) ++ [(⟨.ro, te.w, bs⟩ : Blk)])[(σ ++ e1).length]? = some ⟨.ro, te.w, bs⟩ := by simp
              refine ⟨_, e1 ++ [⟨.ro, te.w, bs⟩], [.slice (σ ++ e1).length 0 len], by rw [← List.append_assoc]; exact H2, by rw [← List.append_assoc]; exact K1.trans K2, by rw [← List.append_assoc]; exact R2, .inr ⟨_, len, bs, rfl, by rw [← List.append_assoc]; exact hg, L1, by omega, fun i hi => by rw [← List.append_assoc]; exact (S1 i hi).mono⟩, by rw [hc]; rfl, fun i u z hu hz => ?_⟩
              rw [hc] at hz
              cases i with
              | zero =>
                simp at hu hz; subst hu; subst hz
                refine ⟨rfl, fun β => ?_⟩
                have := Rel.slice (ι := upd ι1 (σ ++ e1).length ⟨ab, ao, cap * te.w⟩) (σ := (σ ++ e1) ++ [⟨.ro, te.w, bs⟩]) (β := β) (σ ++ e1).length 0 len cap ⟨.ro, te.w, bs⟩ hg hle (by rw [upd_same]; simp)
                rw [upd_same] at this
                simpa using this
              | succ i => simp at hu
        · cases h
      · cases h
    · rename_i fs hu
      split at h
      · rename_i ty' hty
        split at h
        · rename_i hw
          cases h
          obtain ⟨xs, n, _, _, hl, hxl, hf⟩ := DataW.trod_struct hu hx
          have := built_fields (enc := enc) d (built_of_trod d) fs.toList 0 _ hty n cs (fun g hg => by
            obtain ⟨i, hi⟩ := List.getElem?_of_mem hg
            have h1 := hf i g (by simpa using hi)
            have : i < xs.length := by rw [hxl]; have := get_lt hi; simpa using this
            exact ⟨_, h1.trans (List.getElem?_eq_getElem this)⟩) (by omega) ι σ H0 hro
          simpa using this
        · cases h
      · cases h
    · cases h
end
end Go.Ag

namespace Go.Ag
set_option linter.unusedSimpArgs false
set_option linter.unusedVariables false
open Go.RowKit Go.WideShapes Go.ChangeShapes

/-- A parameter's shape, and whether its value is a struct. -/
def argTy (P : Program) (d : Nat) (t : TypeId) : Option (Ty × Bool) :=
  match tyOf P d t with
  | some ty => (match P.underlying t with
    | some (.struct _) => some (ty, true)
    | some (.int _) | some .bool | some .string | some (.slice _) => some (ty, false)
    | _ => none)
  | none => none
def argTys (P : Program) (d : Nat) : List TypeId → Option (List (Ty × Bool))
  | [] => some []
  | t :: r => match argTy P d t, argTys P d r with
    | some a, some b => some (a :: b)
    | _, _ => none

/-- An argument of such a shape. -/
def ArgOk (σ : Heap) : Ty × Bool → V → Prop
  | (ty, true), v => ∃ cs, v = .agg cs ∧ Sh σ ty cs ∧ cs.all V.cell = true
  | (ty, false), v => Sh σ ty [v] ∧ v.cell = true
def ArgsOk (σ : Heap) : List (Ty × Bool) → List V → Prop
  | [], [] => True
  | a :: r, v :: s => ArgOk σ a v ∧ ArgsOk σ r s
  | _, _ => False

theorem ArgOk.mono {σ e : Heap} {a : Ty × Bool} {v : V} (h : ArgOk σ a v) : ArgOk (σ ++ e) a v := by
  obtain ⟨ty, b⟩ := a
  cases b with
  | true => obtain ⟨cs, h1, h2, h3⟩ := h; exact ⟨cs, h1, h2.mono, h3⟩
  | false => exact ⟨h.1.mono, h.2⟩
theorem ArgOk.noBox {σ : Heap} {a : Ty × Bool} {v : V} (h : ArgOk σ a v) : ∀ i o, v ≠ .box i o := by
  obtain ⟨ty, b⟩ := a
  intro i o e
  subst e
  cases b with
  | true => obtain ⟨cs, h1, _⟩ := h; cases h1
  | false => have := h.2; cases this

section
variable {H : Type} {enc : TypeId × Value → H} {P : Program} {W : World} {r : Reach} {base : Nat}

theorem built_arg {d : Nat} {t : TypeId} {a : Ty × Bool} (ha : argTy P d t = some a) {v : Value} {dd : DataW H} {ps : List MemPlace} (h : DataW.Trod enc P W 0 (fun _ => true) true t v dd ps) (hok : Value.okWide P W r base t v)
    (ι : Inj) (σ : Heap) (H0 : HRel ι σ W) (hro : AllRo σ) :
    ∃ ι' e u, HRel ι' (σ ++ e) W ∧ Keeps ι σ ι' (σ ++ e) ∧ AllRo (σ ++ e) ∧ ArgOk (σ ++ e) a u ∧ ∀ β, Rel ι' (σ ++ e) β u v := by
  unfold argTy at ha
  split at ha
  · rename_i ty hty
    obtain ⟨fuel, hx⟩ := h
    obtain ⟨ι', e, vs, h1, h2, h3, h4, h5, h6⟩ := built_of_trod d t ty hty fuel _ _ hx ι σ H0 hro
    have one : ∀ (hc : v.cells = #[v]), a = (ty, false) → ∃ ι' e u, HRel ι' (σ ++ e) W ∧ Keeps ι σ ι' (σ ++ e) ∧ AllRo (σ ++ e) ∧ ArgOk (σ ++ e) a u ∧ ∀ β, Rel ι' (σ ++ e) β u v := by
      intro hc ea
      rw [hc] at h5 h6
      match vs, h5, h4, h6 with
      | [u], _, h4, h6 =>
        obtain ⟨c1, c2⟩ := h6 0 u v rfl rfl
        exact ⟨ι', e, u, h1, h2, h3, by rw [ea]; exact ⟨h4, c1⟩, c2⟩
    split at ha
    · rename_i fs hu
      cases ha
      obtain ⟨cs, rfl, _⟩ := okWide_struct hu hok
      replace h5 : vs.length = cs.toList.length := h5
      refine ⟨ι', e, .agg vs, h1, h2, h3, ⟨vs, rfl, h4, ?_⟩, fun β => ?_⟩
      · rw [List.all_eq_true]
        intro u hu'
        obtain ⟨i, hi⟩ := List.getElem?_of_mem hu'
        have : i < cs.toList.length := by rw [← h5]; exact get_lt hi
        exact (h6 i u _ hi (List.getElem?_eq_getElem this)).1
      · have := Rel.agg (ι := ι') (σ := σ ++ e) (β := β) vs cs.toList h5 (fun u hu' => by
          obtain ⟨i, hi⟩ := List.getElem?_of_mem hu'
          have : i < cs.toList.length := by rw [← h5]; exact get_lt hi
          exact (h6 i u _ hi (List.getElem?_eq_getElem this)).1) (fun i u w hi hw => (h6 i u w hi hw).2 β)
        simpa using this
    · rename_i k hu
      cases ha
      obtain ⟨n, rfl⟩ := okWide_int hu hok
      exact one rfl rfl
    · rename_i hu
      cases ha
      obtain ⟨n, rfl⟩ := okWide_bool hu hok
      exact one rfl rfl
    · rename_i hu
      cases ha
      obtain ⟨n, rfl⟩ := okWide_string hu hok
      exact one rfl rfl
    · rename_i el hu
      cases ha
      obtain ⟨x, y, z, rfl⟩ := okWide_slice hu hok
      exact one rfl rfl
    · cases ha
  · cases ha

theorem built_args {d : Nat} : ∀ {ts : List TypeId} {tys : List (Ty × Bool)}, argTys P d ts = some tys → ∀ {vs : List Value} {ds : List (DataW H)} {ps : List MemPlace}, DataW.TrodAll enc P W 0 (fun _ => true) true ts vs ds ps →
    (∀ (j : Nat) t v, ts[j]? = some t → vs[j]? = some v → Value.okWide P W r base t v) → ∀ (ι : Inj) (σ : Heap), HRel ι σ W → AllRo σ →
    ∃ ι' e us, HRel ι' (σ ++ e) W ∧ Keeps ι σ ι' (σ ++ e) ∧ AllRo (σ ++ e) ∧ ArgsOk (σ ++ e) tys us ∧ us.length = vs.length ∧ ∀ (i : Nat) u v, us[i]? = some u → vs[i]? = some v → (∀ j o, u ≠ .box j o) ∧ ∀ β, Rel ι' (σ ++ e) β u v
  | [], tys, h, vs, ds, ps, hd, _, ι, σ, H0, hro => by
    obtain ⟨rfl, _, _⟩ := trodAll_nil hd
    cases h
    exact ⟨ι, [], [], by simpa using H0, by simpa using Keeps.refl ι σ, by simpa using hro, trivial, rfl, by simp⟩
  | t :: ts, tys, h, vs, ds, ps, hd, hok, ι, σ, H0, hro => by
    obtain ⟨v, vs', x, ds', p, q, rfl, rfl, rfl, h1, h2⟩ := trodAll_cons hd
    unfold argTys at h
    split at h
    · rename_i a b ha hb
      cases h
      obtain ⟨ι1, e1, u, H1, K1, R1, A1, C1⟩ := built_arg ha h1 (hok 0 t v rfl rfl) ι σ H0 hro
      obtain ⟨ι2, e2, us, H2, K2, R2, A2, L2, C2⟩ := built_args hb h2 (fun j t' v' hj hv => hok (j + 1) t' v' hj hv) ι1 (σ ++ e1) H1 R1
      refine ⟨ι2, e1 ++ e2, u :: us, by rw [← List.append_assoc]; exact H2, by rw [← List.append_assoc]; exact K1.trans K2, by rw [← List.append_assoc]; exact R2, by rw [← List.append_assoc]; exact ⟨A1.mono, A2⟩, by simp [L2], fun i u' v' hu hv => ?_⟩
      rw [← List.append_assoc]
      cases i with
      | zero =>
        simp at hu hv; subst hu; subst hv
        exact ⟨A1.noBox, fun β => (C1 β).mono K2 (fun j o e => absurd e (A1.noBox j o))⟩
      | succ i => exact C2 i u' v' (by simpa using hu) (by simpa using hv)
    · cases h
end

/-- The types' bare facts, in one look. -/
def rowsOk (P : Program) (ts : List TypeId) : Bool := ts.all fun t => P.readableRec t && decide (t < P.types.size)

theorem trodAll_stays {H : Type} {enc : TypeId × Value → H} {P : Program} (hl : laidOutB P = true) {W W' : World} {sp' : Nat → Bool} : ∀ {ts : List TypeId} {vs : List Value} {ds : List (DataW H)} {ps : List MemPlace}, rowsOk P ts = true →
    DataW.TrodAll enc P W 0 (fun _ => true) true ts vs ds ps → (∀ p ∈ ps, W.sameAt W' p) → (∀ p ∈ ps, sp' p.block = true) → DataW.TrodAll enc P W' 0 sp' true ts vs ds ps
  | [], vs, ds, ps, _, h, _, _ => by
    obtain ⟨rfl, rfl, rfl⟩ := trodAll_nil h
    rfl
  | t :: ts, vs, ds, ps, hr, h, h1, h2 => by
    obtain ⟨v, vs', x, ds', p, q, rfl, rfl, rfl, g1, g2⟩ := trodAll_cons h
    unfold rowsOk at hr
    rw [List.all_cons, Bool.and_eq_true, Bool.and_eq_true, decide_eq_true_eq] at hr
    exact ⟨p, q, WideElems.Trod_stays hl hr.1.1 hr.1.2 g1 (fun y hy => h1 y (by simp [hy])) (fun y hy => h2 y (by simp [hy])), trodAll_stays hl hr.2 g2 (fun y hy => h1 y (by simp [hy])) (fun y hy => h2 y (by simp [hy])), rfl⟩

theorem post_of_under {H : Type} {enc : TypeId × Value → H} {P : Program} {f : Func} {s : ChangeSpec} {apart fresh handsOn again : Bool} {W W' : World} {args : Array Value} {v : Value} {ds gs : List (DataW H)} {before pa pv : List MemPlace}
    (hW : DataW.Whole enc P f.params.toList s.vars apart W args.toList ds gs before)
    (hres : ∀ (b : Nat) (sp : Nat → Bool) (hd : Bool), DataW.TrodAll enc P W' b sp hd f.resultTypes.toList (v.resultList f.resultTypes.size) (s.fn H (ds ++ gs)).results [])
    (hargs : ∀ sp : Nat → Bool, (∀ p ∈ before, sp p.block = true) → DataW.TrodAll enc P W' 0 sp true f.params.toList args.toList (s.fn H (ds ++ gs)).args pa)
    (hvars : ∀ sp : Nat → Bool, (∀ p ∈ before, sp p.block = true) → DataW.TrodVars enc P W' sp s.vars (s.fn H (ds ++ gs)).vars pv)
    (hps : before = pa ++ pv) (hb : Below W.heap.size W W')
    (hok : ∀ (j : Nat) (t : TypeId) (r : Value), f.resultTypes[j]? = some t → (v.resultList f.resultTypes.size)[j]? = some r → Value.okWide P W' .any 0 t r) :
    s.post enc P f apart fresh handsOn again W args v W' := by
  have hlt : ∀ p ∈ before, p.block < W.heap.size := fun p hp => hW.lt p hp
  have hold : ∀ p ∈ before, (fun b => decide (b < W.heap.size)) p.block = true := fun p hp => by simpa using hlt p hp
  refine ⟨ds, gs, before, [], pa, pv, hW, hres _ _ _, hargs _ hold, hvars _ hold, World.keptBut_mono (fun p hp => ⟨hp, ?_⟩) (hb.frame (· ∈ before)), fun _ => ?_⟩
  · rw [hps, List.mem_append] at hp
    exact Or.inr hp
  · obtain ⟨_, _, _, _, _, hz, hn⟩ := hW
    refine ⟨hok, _, _, ([] ++ pa) ++ pv, ⟨[] ++ pa, pv, trodAll_append (hargs _ (fun _ _ => rfl)) (hres _ _ _), hvars _ (fun _ _ => rfl), rfl, ?_, ?_⟩, ?_⟩
    · intro b off hp
      have hin : MemPlace.cell b off ∈ before := by rw [hps]; simpa using hp
      rw [hb.frozen (hlt _ hin)]
      exact hz b off hin
    · intro ha
      have := hn ha
      rw [hps] at this
      simpa using this
    · intro p hp _
      rw [hps]
      simpa using hp

/-- **THE ROW's CONTRACT.** -/
theorem law_contract {H : Type} {enc : TypeId × Value → H} {P : Program} {f : FuncId} {fn : Func} {s : ChangeSpec} {apart fresh handsOn again : Bool} {sem : CallSem} {tys : List (Ty × Bool)} {d : Nat} {tb : TypeId}
    (hs : SoundCall P f sem) (has : argTys P d fn.params.toList = some tys) (hrows : rowsOk P fn.params.toList = true) (hl : laidOutB P = true)
    (hres : fn.resultTypes = #[tb]) (htb : P.underlying tb = some .bool) (hvars : s.vars = [])
    (hspec : ∀ ds : List (DataW H), ds.length = tys.length → s.fn H ds = { results := [.lit (.bool true)], args := ds })
    (law : ∀ (σ : Heap) (us : List V), AllRo σ → ArgsOk σ tys us → sem us σ fun r _ => r = .bool true)
    {W : World} {base : Nat} {args : Array Value} {ds gs : List (DataW H)} {before : List MemPlace}
    (hval : ∀ (j : Nat) t v, fn.params[j]? = some t → args[j]? = some v → Value.okWide P W .any base t v)
    (hW : DataW.Whole enc P fn.params.toList s.vars apart W args.toList ds gs before) :
    Calls P f args W fun e W' => ∃ v, e = .returned v ∧ s.post enc P fn apart fresh handsOn again W args v W' := by
  have hW' := hW
  obtain ⟨p, q, hA, hV, rfl, hfz, hnd⟩ := hW
  rw [hvars] at hV
  obtain ⟨rfl, rfl⟩ := trodVars_none hV
  rw [List.append_nil] at hW'
  obtain ⟨ι, e, us, H1, _, R1, A1, L1, C1⟩ := built_args (d := d) has hA (fun j t v hj hv => hval j t v (by simpa using hj) (by simpa using hv)) (fun _ => ⟨0, 0, 0⟩) [] ⟨by simp, by simp, by simp, by simp⟩ (fun l b h => by simp at h)
  simp only [List.nil_append] at H1 R1 A1 C1
  have hc := hs ι e W us args.toList _ H1 ⟨L1, fun i u v hu hv => (C1 i u v hu hv).2⟩ (law e us R1 A1)
  have hlen : ds.length = tys.length := by
    have h1 : ∀ {ts : List TypeId} {tys : List (Ty × Bool)}, argTys P d ts = some tys → tys.length = ts.length := by
      intro ts
      induction ts with
      | nil => intro tys h; cases h; rfl
      | cons t ts ih =>
        intro tys h
        unfold argTys at h
        split at h
        · rename_i a b _ hb
          cases h
          simp [ih hb]
        · cases h
    have h2 : ∀ {ts : List TypeId} {vs : List Value} {ds : List (DataW H)} {ps : List MemPlace}, DataW.TrodAll enc P W 0 (fun _ => true) true ts vs ds ps → ds.length = ts.length := by
      intro ts
      induction ts with
      | nil => intro vs ds ps h; obtain ⟨_, rfl, _⟩ := trodAll_nil h; rfl
      | cons t ts ih =>
        intro vs ds ps h
        obtain ⟨v, vs', x, ds', p, q, rfl, rfl, rfl, _, g2⟩ := trodAll_cons h
        simp [ih g2]
    rw [h1 has, h2 hA]
  refine (Calls.mono (by simpa using hc) fun en W' hd => ?_ : Calls P f args W _)
  obtain ⟨x, r, σ', ι', rfl, rfl, hx, _, hstep⟩ := hd
  have hx' := hx (fun _ => 0)
  cases hx'
  have hb : Below W.heap.size W W' := ⟨hstep.os, hstep.tape, hstep.output, hstep.size, fun k hk => hstep.frame k hk fun l blk hl hk' => by have := R1 l blk hl; rw [hk'] at this; cases this⟩
  have hfn := hspec (ds ++ []) (by simpa using hlen)
  have hlt : ∀ x ∈ p, x.block < W.heap.size := fun x hx => hW'.lt x hx
  refine ⟨_, rfl, post_of_under (pa := p) (pv := []) hW' (fun _ _ _ => ?_) (fun sp hsp => ?_) (fun sp _ => ?_) (by simp) hb (ok_one hres rfl (okWide_bool_mk htb true))⟩
  · rw [hfn, hres]
    exact trodAll_cons_mk (shut_bool htb true) trodAll_mk0
  · rw [hfn]
    simp only [List.append_nil]
    exact trodAll_stays hl hrows hA (fun x hx => hb.same (hlt x hx)) hsp
  · rw [hfn, hvars]
    rfl
end Go.Ag

namespace Go.Ag
set_option linter.unusedSimpArgs false
set_option linter.unusedVariables false
open Go.ChangeShapes

/-! ### What is known of data that come from outside -/
mutual
def CT.wf : (t : CT) → t.D → Prop
  | .int k, n => (Lit.int k n).wf = true
  | .bool, _ => True
  | .str, s => s.length ≤ maxLen
  | .ifc, _ => True
  | .sl r, l => @List.length r.D l ≤ maxLen ∧ ∀ x : r.D, @Membership.mem r.D (List r.D) inferInstance l x → RT.wf r x
def RT.wf : (r : RT) → r.D → Prop
  | .one t, x => CT.wf t x
  | .cons t r, x => CT.wf t x.1 ∧ RT.wf r x.2
end
def AgX.wf : (l : List (Ql × CT)) → AgX l → Prop
  | [], _ => True
  | [a], x => a.2.wf x
  | a :: b :: r, x => a.2.wf x.1 ∧ AgX.wf (b :: r) x.2
def HT.wf : (h : HT) → h.D → Prop
  | .one _ t, x => t.wf x
  | .agg l, x => AgX.wf l x
def TuX.wf : (l : List HT) → TuX l → Prop
  | [], _ => True
  | [a], x => a.wf x
  | a :: b :: r, x => a.wf x.1 ∧ TuX.wf (b :: r) x.2

/-! ### Shapes as types of cells -/
def rtOf : List CT → RT
  | [] => .one .bool
  | [a] => .one a
  | a :: b :: r => .cons a (rtOf (b :: r))
def Ty.cts : Ty → List CT
  | .int k => [.int k]
  | .bool => [.bool]
  | .str => [.str]
  | .sl t => [.sl (rtOf t.cts)]
  | .unit => []
  | .pair a b => a.cts ++ b.cts
/-- No slice of empty elements. -/
def Ty.good : Ty → Bool
  | .sl t => Nat.blt 0 t.w && t.good
  | .pair a b => a.good && b.good
  | _ => true
def htOf : Ty × Bool → HT
  | (ty, true) => .agg (ty.cts.map fun t => (.frz, t))
  | (ty, false) => match ty.cts with | [c] => .one .frz c | _ => .agg []
def argGood : Ty × Bool → Bool
  | (ty, true) => ty.good
  | (ty, false) => ty.good && ty.cts.length == 1

/-- Cells of data. -/
def DL : List CT → Type
  | [] => Unit
  | a :: r => a.D × DL r
def DL.wf : (l : List CT) → DL l → Prop
  | [], _ => True
  | a :: r, x => a.wf x.1 ∧ DL.wf r x.2
def DL.enc : (l : List CT) → DL l → List PV
  | [], _ => []
  | a :: r, x => CT.enc a x.1 :: DL.enc r x.2
def DL.encF : (l : List CT) → DL l → List PV
  | [], _ => []
  | a :: r, x => (CT.dv .frz a x.1).enc :: DL.encF r x.2
def DL.app : (l m : List CT) → DL l → DL m → DL (l ++ m)
  | [], _, _, y => y
  | _ :: l, m, x, y => (x.1, DL.app l m x.2 y)
theorem DL.app_enc : ∀ (l m : List CT) (x : DL l) (y : DL m), DL.enc (l ++ m) (DL.app l m x y) = DL.enc l x ++ DL.enc m y
  | [], _, _, _ => rfl
  | a :: l, m, x, y => by
    show CT.enc a x.1 :: DL.enc (l ++ m) (DL.app l m x.2 y) = CT.enc a x.1 :: (DL.enc l x.2 ++ DL.enc m y)
    rw [DL.app_enc l m x.2 y]
theorem DL.app_encF : ∀ (l m : List CT) (x : DL l) (y : DL m), DL.encF (l ++ m) (DL.app l m x y) = DL.encF l x ++ DL.encF m y
  | [], _, _, _ => rfl
  | a :: l, m, x, y => by
    show (CT.dv .frz a x.1).enc :: DL.encF (l ++ m) (DL.app l m x.2 y) = (CT.dv .frz a x.1).enc :: (DL.encF l x.2 ++ DL.encF m y)
    rw [DL.app_encF l m x.2 y]
theorem DL.app_wf : ∀ (l m : List CT) (x : DL l) (y : DL m), DL.wf l x → DL.wf m y → DL.wf (l ++ m) (DL.app l m x y)
  | [], _, _, _, _, h => h
  | _ :: l, m, x, y, h, h' => ⟨h.1, DL.app_wf l m x.2 y h.2 h'⟩
theorem DL.len : ∀ (l : List CT) (x : DL l), (DL.enc l x).length = l.length
  | [], _ => rfl
  | _ :: l, x => by show _ + 1 = _ + 1; rw [DL.len l x.2]
theorem DL.lenF : ∀ (l : List CT) (x : DL l), (DL.encF l x).length = l.length
  | [], _ => rfl
  | _ :: l, x => by show _ + 1 = _ + 1; rw [DL.lenF l x.2]
def DL.rt : (l : List CT) → DL l → (rtOf l).D
  | [], _ => false
  | [_], x => x.1
  | _ :: b :: r, x => (x.1, DL.rt (b :: r) x.2)
theorem DL.rt_enc : ∀ (l : List CT) (x : DL l), l ≠ [] → RT.enc (rtOf l) (DL.rt l x) = DL.enc l x
  | [], _, h => absurd rfl h
  | [_], _, _ => rfl
  | a :: b :: r, x, _ => by
    show CT.enc a x.1 :: RT.enc (rtOf (b :: r)) (DL.rt (b :: r) x.2) = CT.enc a x.1 :: DL.enc (b :: r) x.2
    rw [DL.rt_enc (b :: r) x.2 (by simp)]
theorem DL.rt_wf : ∀ (l : List CT) (x : DL l), l ≠ [] → DL.wf l x → RT.wf (rtOf l) (DL.rt l x)
  | [], _, h, _ => absurd rfl h
  | [_], _, _, h => h.1
  | a :: b :: r, x, _, h => ⟨h.1, DL.rt_wf (b :: r) x.2 (by simp) h.2⟩
def DL.ag : (l : List CT) → DL l → AgX (l.map fun t => (Ql.frz, t))
  | [], _ => ()
  | [_], x => x.1
  | _ :: b :: r, x => (x.1, DL.ag (b :: r) x.2)
theorem DL.ag_enc : ∀ (l : List CT) (x : DL l), DV.encL (agDv (l.map fun t => (Ql.frz, t)) (DL.ag l x)) = DL.encF l x
  | [], _ => rfl
  | [_], _ => rfl
  | a :: b :: r, x => by
    show (CT.dv .frz a x.1).enc :: DV.encL (agDv ((b :: r).map fun t => (Ql.frz, t)) (DL.ag (b :: r) x.2)) = (CT.dv .frz a x.1).enc :: DL.encF (b :: r) x.2
    rw [DL.ag_enc (b :: r) x.2]
theorem DL.ag_wf : ∀ (l : List CT) (x : DL l), DL.wf l x → AgX.wf (l.map fun t => (Ql.frz, t)) (DL.ag l x)
  | [], _, _ => trivial
  | [_], _, h => h.1
  | a :: b :: r, x, h => ⟨h.1, DL.ag_wf (b :: r) x.2 h.2⟩

theorem cts_len : ∀ (t : Ty), t.cts.length = t.w
  | .int _ | .bool | .str | .sl _ | .unit => rfl
  | .pair a b => by simp only [Ty.cts, Ty.w, List.length_append, cts_len a, cts_len b]

/-- The labels: all is frozen. -/
def ωro (σ : Heap) : Nat → W := fun l => if l < σ.length then .frz else .none
theorem ωro_frz {σ : Heap} {l : Nat} {b : Blk} (h : σ[l]? = some b) : ωro σ l = .frz := by
  unfold ωro; rw [if_pos (get_len h)]

theorem pget_app_left : ∀ (a b : List PV) (i : Nat), i < a.length → pget (a ++ b) i = pget a i
  | [], _, _, h => by cases h
  | _ :: _, _, 0, _ => rfl
  | _ :: a, b, i + 1, h => pget_app_left a b i (by simpa using h)
theorem pget_app_right : ∀ (a b : List PV) (i : Nat), pget (a ++ b) (a.length + i) = pget b i
  | [], _, _ => by simp
  | _ :: a, b, i => by
    have := pget_app_right a b i
    simp only [List.cons_append, List.length_cons, Nat.add_right_comm]
    exact this
theorem get_app_left : ∀ (a b : List V) (i : Nat), i < a.length → get (a ++ b) i = get a i
  | [], _, _, h => by cases h
  | _ :: _, _, 0, _ => rfl
  | _ :: a, b, i + 1, h => get_app_left a b i (by simpa using h)
theorem get_app_right : ∀ (a b : List V) (i : Nat), get (a ++ b) (a.length + i) = get b i
  | [], _, _ => by simp
  | _ :: a, b, i => by
    have := get_app_right a b i
    simp only [List.cons_append, List.length_cons, Nat.add_right_comm]
    exact this
theorem get_drop_take : ∀ (l : List V) (o n i : Nat), i < n → get ((l.drop o).take n) i = get l (o + i)
  | [], o, n, i, _ => by simp [get]
  | c :: r, 0, 0, i, h => by cases h
  | c :: r, 0, n + 1, 0, _ => rfl
  | c :: r, 0, n + 1, i + 1, h => by
    have := get_drop_take r 0 n i (by omega)
    simp only [Nat.zero_add] at this
    simp only [List.drop_zero, List.take_succ_cons, get, Nat.zero_add]
    simpa using this
  | c :: r, o + 1, n, i, h => by
    have := get_drop_take r o n i h
    rw [List.drop_succ_cons, this, Nat.add_right_comm]
    rfl
theorem pget_flat {w : Nat} : ∀ (es : List (List PV)) (i j : Nat), (∀ e ∈ es, e.length = w) → j < w → i < es.length → pget es.flatten (i * w + j) = pget (elt es i) j
  | [], i, _, _, _, h => by cases h
  | e :: r, 0, j, hw, hj, _ => by
    have he := hw e (List.mem_cons_self ..)
    rw [Nat.zero_mul, Nat.zero_add, List.flatten_cons, pget_app_left _ _ _ (by omega)]
    rfl
  | e :: r, i + 1, j, hw, hj, h => by
    have he := hw e (List.mem_cons_self ..)
    rw [List.flatten_cons, show (i + 1) * w + j = e.length + (i * w + j) by rw [he, Nat.succ_mul]; omega, pget_app_right]
    exact pget_flat r i j (fun e h => hw e (List.mem_cons_of_mem _ h)) hj (by simpa using h)
theorem elt_map' {α : Type} (f : α → List PV) : ∀ (l : List α) (i : Nat) (h : i < l.length), elt (l.map f) i = f l[i]
  | [], _, h => by cases h
  | _ :: _, 0, _ => rfl
  | _ :: l, i + 1, h => elt_map' f l i (by simpa using h)

/-- What lies outside reads as data. -/
theorem sh_data {σ : Heap} : ∀ (ty : Ty) {cs : List V}, ty.good = true → Sh σ ty cs → ∃ x : DL ty.cts, DL.wf ty.cts x ∧
    (∀ i, RC σ (ωro σ) .fz (pget (DL.enc ty.cts x) i) (get cs i)) ∧ ∀ i hd p, RC σ (ωro σ) (.at hd p) (pget (DL.encF ty.cts x) i) (get cs i)
  | .int k, cs, _, ⟨n, h, hw⟩ => by
    subst h
    exact ⟨(n, ()), ⟨hw, trivial⟩, fun i => by cases i <;> first | exact .v _ _ rfl | exact .undef _ _, fun i hd p => by cases i <;> first | exact .v _ _ rfl | exact .undef _ _⟩
  | .bool, cs, _, ⟨b, h⟩ => by
    subst h
    exact ⟨(b, ()), ⟨trivial, trivial⟩, fun i => by cases i <;> first | exact .v _ _ rfl | exact .undef _ _, fun i hd p => by cases i <;> first | exact .v _ _ rfl | exact .undef _ _⟩
  | .str, cs, _, ⟨s, h, hl⟩ => by
    subst h
    exact ⟨(s, ()), ⟨hl, trivial⟩, fun i => by cases i <;> first | exact .v _ _ rfl | exact .undef _ _, fun i hd p => by cases i <;> first | exact .v _ _ rfl | exact .undef _ _⟩
  | .unit, cs, _, h => by
    have h : cs = [] := h
    subst h
    exact ⟨(), trivial, fun i => .undef _ _, fun i hd p => .undef _ _⟩
  | .pair a b, cs, hg, ⟨xs, ys, h, h1, h2⟩ => by
    simp only [Ty.good, Bool.and_eq_true] at hg
    obtain ⟨x, x1, x2, x3⟩ := sh_data a hg.1 h1
    obtain ⟨y, y1, y2, y3⟩ := sh_data b hg.2 h2
    have hl := h1.len
    subst h
    refine ⟨DL.app _ _ x y, DL.app_wf _ _ x y x1 y1, fun i => ?_, fun i hd p => ?_⟩
    · simp only [Ty.cts]
      rw [DL.app_enc]
      by_cases hi : i < a.w
      · rw [pget_app_left _ _ _ (by rw [DL.len, cts_len]; exact hi), get_app_left _ _ _ (by rw [hl]; exact hi)]
        exact x2 i
      · obtain ⟨j, rfl⟩ := Nat.exists_eq_add_of_le (Nat.le_of_not_lt hi)
        have e1 := pget_app_right (DL.enc a.cts x) (DL.enc b.cts y) j
        have e2 := get_app_right xs ys j
        rw [DL.len, cts_len] at e1
        rw [hl] at e2
        rw [e1, e2]
        exact y2 j
    · simp only [Ty.cts]
      rw [DL.app_encF]
      by_cases hi : i < a.w
      · rw [pget_app_left _ _ _ (by rw [DL.lenF, cts_len]; exact hi), get_app_left _ _ _ (by rw [hl]; exact hi)]
        exact x3 i hd p
      · obtain ⟨j, rfl⟩ := Nat.exists_eq_add_of_le (Nat.le_of_not_lt hi)
        have e1 := pget_app_right (DL.encF a.cts x) (DL.encF b.cts y) j
        have e2 := get_app_right xs ys j
        rw [DL.lenF, cts_len] at e1
        rw [hl] at e2
        rw [e1, e2]
        exact y3 j hd p
  | .sl t, cs, hg, h => by
    simp only [Ty.good, Bool.and_eq_true] at hg
    have hw0 : 0 < t.w := Nat.le_of_ble_eq_true hg.1
    have hne : t.cts ≠ [] := by intro e; have := cts_len t; rw [e] at this; simp only [List.length_nil] at this; omega
    rcases h with h | ⟨l, n, bs, h, hb, hbl, hn, he⟩
    · subst h
      refine ⟨(([] : List (rtOf t.cts).D), ()), ⟨⟨Nat.zero_le _, fun x hx => by cases hx⟩, trivial⟩, fun i => ?_, fun i hd p => ?_⟩
      · cases i <;> first | exact .nil _ _ | exact .undef _ _
      · cases i <;> first | exact .nil _ _ | exact .undef _ _
    · subst h
      have ex : ∀ i, ∃ x : DL t.cts, i < n → DL.wf t.cts x ∧ (∀ k, RC σ (ωro σ) .fz (pget (DL.enc t.cts x) k) (get ((bs.drop (i * t.w)).take t.w) k)) := by
        intro i
        by_cases hi : i < n
        · obtain ⟨x, h1, h2, _⟩ := sh_data t hg.2 (he i hi)
          exact ⟨x, fun _ => ⟨h1, h2⟩⟩
        · have h0 : ∀ l : List CT, Nonempty (DL l) := by
            intro l
            induction l with
            | nil => exact ⟨()⟩
            | cons a r ih => obtain ⟨y⟩ := ih; exact ⟨(a.dflt, y)⟩
          obtain ⟨y⟩ := h0 t.cts
          exact ⟨y, fun h => absurd h hi⟩
      let f : Nat → DL t.cts := fun i => Classical.choose (ex i)
      have hf : ∀ i, i < n → DL.wf t.cts (f i) ∧ ∀ k, RC σ (ωro σ) .fz (pget (DL.enc t.cts (f i)) k) (get ((bs.drop (i * t.w)).take t.w) k) := fun i hi => Classical.choose_spec (ex i) hi
      let L : List (rtOf t.cts).D := (List.range n).map fun i => DL.rt t.cts (f i)
      have hL : L.length = n := by simp [L]
      have hLw : ∀ e ∈ L.map (RT.enc (rtOf t.cts)), e.length = t.w := by
        intro e he
        obtain ⟨y, hy, rfl⟩ := List.mem_map.mp he
        obtain ⟨i, _, rfl⟩ := List.mem_map.mp hy
        rw [DL.rt_enc _ _ hne, DL.len, cts_len]
      have hcell : ∀ k, k < L.length * t.w → RC σ (ωro σ) .fz (pget (L.map (RT.enc (rtOf t.cts))).flatten k) (get bs (0 + k)) := by
        intro k hk
        have hdm : k / t.w * t.w + k % t.w = k := by rw [Nat.mul_comm]; exact Nat.div_add_mod k t.w
        have hmod := Nat.mod_lt k hw0
        have hdiv : k / t.w < n := by rw [hL] at hk; exact (Nat.div_lt_iff_lt_mul hw0).2 hk
        have e1 := pget_flat (L.map (RT.enc (rtOf t.cts))) (k / t.w) (k % t.w) hLw hmod (by rw [List.length_map, hL]; exact hdiv)
        rw [hdm] at e1
        rw [e1, elt_map' _ _ _ (by rw [hL]; exact hdiv), Nat.zero_add]
        have e2 := get_drop_take bs (k / t.w * t.w) t.w (k % t.w) hmod
        rw [hdm] at e2
        have e3 : L[k / t.w]'(by rw [hL]; exact hdiv) = DL.rt t.cts (f (k / t.w)) := by simp [L]
        rw [e3, DL.rt_enc _ _ hne, ← e2]
        exact (hf _ hdiv).2 _
      have hwf : ∀ x ∈ L, RT.wf (rtOf t.cts) x := by
        intro x hx
        obtain ⟨i, hi, rfl⟩ := List.mem_map.mp hx
        exact DL.rt_wf _ _ hne (hf i (List.mem_range.mp hi)).1
      have hle : 0 + (L.map (RT.enc (rtOf t.cts))).length * t.w ≤ bs.length := by rw [List.length_map, hL, hbl]; omega
      refine ⟨(L, ()), ⟨⟨by rw [hL]; exact hn, hwf⟩, trivial⟩, fun i => ?_, fun i hd p => ?_⟩
      · cases i with
        | succ i => exact .undef _ _
        | zero => exact .sl _ _ _ _ _ _ _ hb (by simp) (ωro_frz hb) (fun e => by cases e) (by rw [List.length_map, hL]) hLw hle fun k hk => hcell k (by rw [List.length_map] at hk; exact hk)
      · cases i with
        | succ i => exact .undef _ _
        | zero => exact .sl _ _ _ _ _ _ _ hb (by simp) (ωro_frz hb) (fun _ e => by rcases e with e | ⟨_, _, e⟩ <;> cases e) (by rw [List.length_map, hL]) hLw hle fun k hk => hcell k (by rw [List.length_map] at hk; exact hk)

/-- One argument. -/
structure ArgD (σ : Heap) (v : PV) (u : V) : Prop where
  rc : ∀ hd p c, RC σ (ωro σ) (.at hd p) (v.fcell c) (u.fcell c)
  sh : Shp v u
  nx : ∀ c i pb tp, (v.fcell c).q ≠ some (.bor (.x i) pb tp)
theorem cell_sc {v : V} (h : v.cell = true) : (∀ us, v ≠ .agg us) ∧ ∀ us, v ≠ .tup us := by
  constructor <;> rintro us rfl <;> cases h
theorem frz_q : ∀ (l : List CT) (x : DL l) (i : Nat) (a : Hd) (pb : List Nat) (tp : Bool), (pget (DL.encF l x) i).q ≠ some (.bor a pb tp)
  | [], _, _, _, _, _ => by simp [DL.encF, pget, PV.q]
  | c :: r, x, 0, a, pb, tp => by cases c <;> simp [DL.encF, pget, CT.dv, DV.enc, PV.q]
  | _ :: r, x, i + 1, a, pb, tp => frz_q r x.2 i a pb tp
theorem arg_data {σ : Heap} {a : Ty × Bool} {u : V} (hg : argGood a = true) (h : ArgOk σ a u) : ∃ x : (htOf a).D, (htOf a).wf x ∧ ArgD σ ((htOf a).dv x).enc u := by
  obtain ⟨ty, b⟩ := a
  cases b with
  | true =>
    obtain ⟨cs, rfl, hs, hc⟩ := h
    obtain ⟨x, h1, _, h3⟩ := sh_data ty hg hs
    have hle := hs.len
    refine ⟨DL.ag ty.cts x, DL.ag_wf _ _ h1, ?_⟩
    have he : ((htOf (ty, true)).dv (DL.ag ty.cts x)).enc = .agg (DL.encF ty.cts x) := by
      show PV.agg _ = PV.agg _
      rw [DL.ag_enc]
    rw [he]
    refine ⟨fun hd p c => ?_, ⟨cs, rfl, by rw [hle, DL.lenF, cts_len]⟩, fun c i pb tp => ?_⟩
    · match c with
      | [] => exact .undef _ _
      | [c] => exact h3 c hd p
      | _ :: _ :: _ => exact .undef _ _
    · match c with
      | [] => simp [PV.fcell, PV.q]
      | [c] => exact frz_q _ _ _ _ _ _
      | _ :: _ :: _ => simp [PV.fcell, PV.q]
  | false =>
    obtain ⟨hs, hc⟩ := h
    simp only [argGood, Bool.and_eq_true, beq_iff_eq] at hg
    obtain ⟨x, h1, _, h3⟩ := sh_data ty hg.1 hs
    have key : ∀ (l : List CT) (x : DL l), l.length = 1 → DL.wf l x → (∀ i hd p, RC σ (ωro σ) (.at hd p) (pget (DL.encF l x) i) (get [u] i)) →
        ∃ y : (match l with | [c] => HT.one .frz c | _ => HT.agg []).D, (match l with | [c] => HT.one .frz c | _ => HT.agg []).wf y ∧ ArgD σ ((match l with | [c] => HT.one .frz c | _ => HT.agg []).dv y).enc u := by
      intro l x hl hwf h3
      match l, x, hl, hwf, h3 with
      | [c], x, _, hwf, h3 =>
        have hsc := cell_sc hc
        have hnf : ∀ p, p ≠ [0] → ((CT.dv .frz c x.1).enc).fcell p = .fl .undef := by
          intro p hp
          cases c <;> (match p with | [] => rfl | [0] => exact absurd rfl hp | (_ + 1) :: _ => rfl | 0 :: _ :: _ => rfl)
        have hf0 : ((CT.dv .frz c x.1).enc).fcell [0] = (CT.dv .frz c x.1).enc := by cases c <;> rfl
        have hu0 : u.fcell [0] = u := by cases u <;> first | rfl | exact absurd rfl (hsc.1 _) | exact absurd rfl (hsc.2 _)
        refine ⟨x.1, hwf.1, ⟨fun hd p q => ?_, ?_, fun q i pb tp => ?_⟩⟩
        · by_cases hq : q = [0]
          · subst hq
            show RC σ (ωro σ) (.at hd p) (((CT.dv .frz c x.1).enc).fcell [0]) (u.fcell [0])
            rw [hf0, hu0]; exact h3 0 hd p
          · show RC σ (ωro σ) (.at hd p) (((CT.dv .frz c x.1).enc).fcell q) (u.fcell q)
            rw [hnf q hq]; exact .undef _ _
        · show Shp ((CT.dv .frz c x.1).enc) u
          cases c <;> exact hsc
        · show (((CT.dv .frz c x.1).enc).fcell q).q ≠ _
          by_cases hq : q = [0]
          · subst hq
            rw [hf0]; exact frz_q [c] x 0 _ _ _
          · rw [hnf q hq]; simp [PV.q]
    exact key ty.cts x hg.2 h1 h3

/-- All arguments. -/
theorem args_data {σ : Heap} : ∀ {tys : List (Ty × Bool)} {us : List V}, tys.all argGood = true → ArgsOk σ tys us → ∃ x : TuX (tys.map htOf), TuX.wf _ x ∧ us.length = tys.length ∧
    ∀ t, ArgD σ (pget (DV.encL (tuDv (tys.map htOf) x)) t) (get us t)
  | [], [], _, _ => ⟨(), trivial, rfl, fun t => ⟨fun hd p c => by
      have : (PV.fl V.undef).fcell c = .fl .undef := by match c with | [] => rfl | [0] => rfl | (_ + 1) :: _ => rfl | 0 :: _ :: _ => rfl
      show RC σ (ωro σ) (.at hd p) ((PV.fl V.undef).fcell c) _
      rw [this]; exact .undef _ _, trivial, fun c i pb tp => by
      have : (PV.fl V.undef).fcell c = .fl .undef := by match c with | [] => rfl | [0] => rfl | (_ + 1) :: _ => rfl | 0 :: _ :: _ => rfl
      show ((PV.fl V.undef).fcell c).q ≠ _
      rw [this]; simp [PV.q]⟩⟩
  | [a], [u], hg, h => by
    simp only [List.all_cons, List.all_nil, Bool.and_true] at hg
    obtain ⟨x, h1, h2⟩ := arg_data hg h.1
    obtain ⟨_, _, _, h4⟩ := args_data (σ := σ) (tys := []) (us := []) rfl trivial
    refine ⟨x, h1, rfl, fun t => ?_⟩
    cases t with
    | zero => exact h2
    | succ t => exact h4 t
  | a :: b :: r, u :: us, hg, h => by
    rw [List.all_cons, Bool.and_eq_true] at hg
    obtain ⟨x, h1, h2⟩ := arg_data hg.1 h.1
    obtain ⟨y, h3, h4, h5⟩ := args_data (tys := b :: r) (us := us) hg.2 h.2
    refine ⟨(x, y), ⟨h1, h3⟩, by simp [h4], fun t => ?_⟩
    cases t with
    | zero => exact h2
    | succ t => exact h5 t
  | [_], _ :: _ :: _, _, h => h.2.elim
  | [_], [], _, h => h.elim
  | _ :: _ :: _, [], _, h => h.elim
  | [], _ :: _, _, h => h.elim

theorem entry {σ : Heap} {as : List PV} {us : List V} (hl : as.length = us.length) (h : ∀ t, ArgD σ (pget as t) (get us t)) : RS σ (ωro σ) (ωro σ) (fun _ => 0) ⟨as, [], []⟩ ⟨us, [], σ⟩ X0 := by
  have no : ∀ l hd p, ωro σ l ≠ .own hd p := by intro l hd p e; unfold ωro at e; split at e <;> cases e
  have nop : ∀ l i, ωro σ l ≠ .ptr i := by intro l i e; unfold ωro at e; split at e <;> cases e
  have hund : ∀ c, (PV.fl V.undef).fcell c = .fl .undef := by
    intro c; match c with | [] => rfl | [0] => rfl | (_ + 1) :: _ => rfl | 0 :: _ :: _ => rfl
  have cat : ∀ (c : List Nat) (l : List V), (cellAt [] l c).1 = .fl .undef := by
    intro c l; match c with | [] => rfl | [_] => rfl | _ :: _ :: _ => rfl
  refine ⟨⟨fun hd p => ?_, fun l l' hd p e => absurd e (no l hd p), fun l l' i e => absurd e (nop l i), fun l e => ?_, fun l e => ?_⟩, fun t => (h t).sh, fun i => trivial, hl, rfl, fun i => rfl, fun i c => rfl, fun i c => rfl, fun i hi => (by cases hi), fun l i e => absurd e (nop l i), fun l i p e => absurd e (no l _ p), ⟨Nat.le_refl _, fun l _ _ => ⟨rfl, rfl⟩, fun l hlt e => (by rw [e]; simp), fun l i e => e⟩, fun hd p i pb tp => ?_⟩
  · cases hd with
    | s t => exact (h t).rc _ _ _
    | b i => show RC σ (ωro σ) _ (cellAt [] (getB [] i) p).1 _; rw [cat]; exact .undef _ _
    | h i => show RC σ (ωro σ) _ (cellAt [] _ p).1 _; rw [cat]; exact .undef _ _
    | x i => show RC σ (ωro σ) _ ((PV.fl V.undef).fcell p) _; rw [hund]; exact .undef _ _
  · rcases e with ⟨hd, p, e⟩ | ⟨i, e⟩
    · exact absurd e (no l hd p)
    · exact absurd e (nop l i)
  · unfold ωro at e; split at e
    · assumption
    · cases e
  · cases hd with
    | s t => exact (h t).nx p i pb tp
    | b j => show (cellAt [] (getB [] j) p).1.q ≠ _; rw [cat]; simp [PV.q]
    | h j => show (cellAt [] _ p).1.q ≠ _; rw [cat]; simp [PV.q]
    | x j => show ((PV.fl V.undef).fcell p).q ≠ _; rw [hund]; simp [PV.q]

/-- A LAW, from its function's third meaning. -/
theorem law_of {f : DFun} {tys : List (Ty × Bool)} {hs : List HT} {s : CallSem} (hsp : SoundP s (pfunSem f.er)) (hhs : tys.map htOf = hs) (hg : tys.all argGood = true) (ho : AllD f.body.obs)
    (hst : fnSt f hs (.one (.one .own .bool)) = true) (hc : ∀ x, fnChk f hs (.one (.one .own .bool)) x = true)
    (law : ∀ x : TuX hs, TuX.wf hs x → fnOk f hs (.one (.one .own .bool)) x ∧ fnV f hs (.one (.one .own .bool)) x = true) (σ : Heap) (us : List V) (hro : AllRo σ) (ha : ArgsOk σ tys us) : s us σ fun r _ => r = .bool true := by
  subst hhs
  obtain ⟨x, h1, h2, h3⟩ := args_data hg ha
  obtain ⟨l1, l2⟩ := law x h1
  have hlen : (DV.encL (tuDv (tys.map htOf) x)).length = us.length := by rw [encL_len, tuDv_len, List.length_map, h2]
  refine hsp σ (ωro σ) (fun _ => 0) _ us [] (fun r _ => r = .fl (.bool true)) _ (entry hlen h3) (fun l hd p e => ?_) ?_ fun u h' r H' ω' ρ' hQ R' _ => ?_
  · exfalso; unfold ωro at e; split at e <;> cases e
  · refine fn_sound ho hst x (hc x) l1 fun H => ?_
    rw [l2]
    rfl
  · subst hQ
    have r := R'.core.rc (.x 0) [0]
    have hs := R'.shx 0
    have r : RC h' ω' (.at (.x 0) [0]) (.fl (.bool true)) (u.fcell [0]) := r
    have hu : u.fcell [0] = u := by
      have hs : Shp (.fl (.bool true)) u := hs
      cases u <;> first | rfl | exact absurd rfl (hs.1 _) | exact absurd rfl (hs.2 _)
    rw [hu] at r
    cases r
    rfl
end Go.Ag
