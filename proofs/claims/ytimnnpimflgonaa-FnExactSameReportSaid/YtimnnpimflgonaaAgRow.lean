/-
  FROM THE ROW TO THE ABSTRACT STATE: what arguments of numbers, bools, strings, slices and structs read as becomes blocks that are only read.
-/
import Derived.Test.YtimnnpimflgonaaAgFun
import Derived.WalkKit
import Derived.ProofKit
import Derived.OpenShut
import Derived.Carry
import Derived.ChangeSame
namespace Go.Ag
open Go.RowKit Go.WideShapes Go.ChangeShapes

/-- The shape of a type. -/
inductive Ty where
  | int (k : IntKind)
  | bool
  | str
  | sl (t : Ty)
  | unit
  | pair (a b : Ty)
def Ty.w : Ty → Nat
  | .int _ | .bool | .str | .sl _ => 1
  | .unit => 0
  | .pair a b => a.w + b.w

def tyFs (P : Program) (f : TypeId → Option Ty) : List Field → Nat → Option Ty
  | [], _ => some .unit
  | g :: r, off =>
    match f g.type with
    | some a => if g.offset = off ∧ a.w = P.cellsOf g.type then (match tyFs P f r (off + a.w) with | some b => some (.pair a b) | none => none) else none
    | none => none
def tyOf (P : Program) : Nat → TypeId → Option Ty
  | 0, _ => none
  | d + 1, t =>
    match P.underlying t with
    | some (.int k) => some (.int k)
    | some .bool => some .bool
    | some .string => some .str
    | some (.slice e) => (match tyOf P d e with | some te => if te.w = P.cellsOf e ∧ 0 < te.w then some (.sl te) else none | none => none)
    | some (.struct fs) => (match tyFs P (tyOf P d) fs.toList 0 with | some ty => if ty.w = P.cellsOf t then some ty else none | none => none)
    | _ => none

/-- Cells of such a shape. -/
def Sh (σ : Heap) : Ty → List V → Prop
  | .int k, cs => ∃ n, cs = [.int k n] ∧ (Lit.int k n).wf = true
  | .bool, cs => ∃ b, cs = [.bool b]
  | .str, cs => ∃ s, cs = [.str s] ∧ s.length ≤ maxLen
  | .sl t, cs => cs = [.nils] ∨ ∃ (l n : Nat) (bs : List V), cs = [.slice l 0 n] ∧ σ[l]? = some ⟨.ro, t.w, bs⟩ ∧ bs.length = n * t.w ∧ n ≤ maxLen ∧ ∀ i, i < n → Sh σ t ((bs.drop (i * t.w)).take t.w)
  | .unit, cs => cs = []
  | .pair a b, cs => ∃ xs ys, cs = xs ++ ys ∧ Sh σ a xs ∧ Sh σ b ys

theorem Sh.len {σ : Heap} : ∀ {ty : Ty} {cs : List V}, Sh σ ty cs → cs.length = ty.w
  | .int _, _, ⟨_, h, _⟩ => by rw [h]; rfl
  | .bool, _, ⟨_, h⟩ => by rw [h]; rfl
  | .str, _, ⟨_, h, _⟩ => by rw [h]; rfl
  | .sl _, _, h => by rcases h with h | ⟨_, _, _, h, _⟩ <;> rw [h] <;> rfl
  | .unit, _, h => by rw [h]; rfl
  | .pair a b, _, ⟨xs, ys, h, h1, h2⟩ => by rw [h, List.length_append, h1.len, h2.len]; rfl
theorem Sh.mono {σ e : Heap} : ∀ {ty : Ty} {cs : List V}, Sh σ ty cs → Sh (σ ++ e) ty cs
  | .int _, _, h => h
  | .bool, _, h => h
  | .str, _, h => h
  | .sl _, _, h => by
    rcases h with h | ⟨l, n, bs, h, h1, h2, h3, h4⟩
    · exact .inl h
    · exact .inr ⟨l, n, bs, h, by rw [List.getElem?_append_left (get_len h1)]; exact h1, h2, h3, fun i hi => (h4 i hi).mono⟩
  | .unit, _, h => h
  | .pair _ _, _, ⟨xs, ys, h, h1, h2⟩ => ⟨xs, ys, h, h1.mono, h2.mono⟩

def AllRo (σ : Heap) : Prop := ∀ (l : Nat) (b : Blk), σ[l]? = some b → b.k = .ro
/-- What the arguments add to the abstract heap. -/
def Built (ι : Inj) (σ : Heap) (W : World) (ty : Ty) (cs : List Value) : Prop :=
  ∃ ι' e vs, HRel ι' (σ ++ e) W ∧ Keeps ι σ ι' (σ ++ e) ∧ AllRo (σ ++ e) ∧ Sh (σ ++ e) ty vs ∧ vs.length = cs.length ∧ ∀ (i : Nat) v x, vs[i]? = some v → cs[i]? = some x → v.cell = true ∧ ∀ β, Rel ι' (σ ++ e) β v x

theorem mapM_mem {α β : Type} {f : α → Option β} : ∀ {l : List α} {ys : List β}, l.mapM f = some ys → ∀ x ∈ l, ∃ y, f x = some y
  | [], _, _ => by simp
  | a :: l, ys, h => by
    rw [List.mapM_cons] at h
    simp only [Option.bind_eq_bind, Option.bind_eq_some_iff] at h
    obtain ⟨y, h1, ys', h2, _⟩ := h
    intro x hx
    rcases List.mem_cons.1 hx with rfl | hx
    · exact ⟨y, h1⟩
    · exact mapM_mem h2 x hx

/-- A block that is only read is laid over memory that is there. -/
theorem HRel.lay {ι : Inj} {σ : Heap} {W : World} (h : HRel ι σ W) (hro : AllRo σ) {b off c : Nat} {wd : Nat} {bs : List V} (hb : b < W.heap.size) (hc : ∀ (i : Nat) v, bs[i]? = some v → v.cell = true ∧ ∃ x, W.cell? ⟨b, off + i, none⟩ = some x ∧ ∀ β, Rel ι σ β v x) :
    HRel (upd ι σ.length ⟨b, off, c⟩) (σ ++ [⟨.ro, wd, bs⟩]) W ∧ AllRo (σ ++ [⟨.ro, wd, bs⟩]) := by
  have K := keeps_push ι σ ⟨b, off, c⟩ ⟨.ro, wd, bs⟩
  have hall : AllRo (σ ++ [⟨.ro, wd, bs⟩]) := by
    intro l blk hl
    rcases push_get hl with ⟨_, hl⟩ | ⟨_, rfl⟩
    · exact hro l blk hl
    · rfl
  refine ⟨⟨fun l blk hl hk i v hv => ?_, fun l blk hl hk => ?_, fun l l' blk blk' hne hl hl' hk hk' => ?_, fun l blk hl hk => ?_⟩, hall⟩
  · rcases push_get hl with ⟨hlt, hl⟩ | ⟨rfl, rfl⟩
    · rw [upd_other _ _ _ _ (by omega)]
      obtain ⟨a, x, b', c⟩ := h.cells l blk hl hk i v hv
      exact ⟨a, x, b', fun β => (c β).cellMono K a⟩
    · rw [upd_same]
      obtain ⟨a, x, b', c⟩ := hc i v hv
      exact ⟨a, x, b', fun β => (c β).cellMono K a⟩
  · have := hall l blk hl; rw [hk] at this; cases this
  · have := hall l blk hl; rw [hk] at this; cases this
  · rcases push_get hl with ⟨hlt, hl⟩ | ⟨rfl, rfl⟩
    · rw [upd_other _ _ _ _ (by omega)]; exact h.there l blk hl hk
    · rw [upd_same]; exact hb

theorem cell_block_lt {w : World} {a : Addr} {v : Value} (h : w.cell? a = some v) : a.block < w.heap.size := by
  unfold World.cell? at h
  rcases Nat.lt_or_ge a.block w.heap.size with h1 | h1
  · exact h1
  · rw [Array.getElem?_eq_none h1] at h; cases h

theorem get_lt {α : Type} {l : List α} {i : Nat} {v : α} (h : l[i]? = some v) : i < l.length := by
  rcases Nat.lt_or_ge i l.length with h1 | h1
  · exact h1
  · rw [List.getElem?_eq_none h1] at h; cases h

section
variable {H : Type} {enc : TypeId × Value → H} {P : Program} {W : World}

theorem built_fields (d : Nat) (ih : ∀ (t : TypeId) (ty : Ty), tyOf P d t = some ty → ∀ (fuel : Nat) (cs : List Value) x, DataW.trod enc P W 0 (fun _ => true) true fuel t cs = some x → ∀ (ι : Inj) (σ : Heap), HRel ι σ W → AllRo σ → Built ι σ W ty cs) :
    ∀ (fs : List Field) (off : Nat) (ty : Ty), tyFs P (tyOf P d) fs off = some ty → ∀ (fuel : Nat) (cs : List Value), (∀ g ∈ fs, ∃ x, DataW.trod enc P W 0 (fun _ => true) true fuel g.type ((cs.drop g.offset).take (P.cellsOf g.type)) = some x) →
      off + ty.w = cs.length → ∀ (ι : Inj) (σ : Heap), HRel ι σ W → AllRo σ → Built ι σ W ty (cs.drop off)
  | [], off, ty, h, fuel, cs, _, hl, ι, σ, H, hro => by
    simp only [tyFs, Option.some.injEq] at h
    subst h
    simp only [Ty.w, Nat.add_zero] at hl
    have : cs.drop off = [] := by rw [hl]; simp
    rw [this]
    exact ⟨ι, [], [], by simpa using H, by simpa using Keeps.refl ι σ, by simpa using hro, rfl, rfl, by simp⟩
  | g :: r, off, ty, h, fuel, cs, hg, hl, ι, σ, H, hro => by
    simp only [tyFs] at h
    split at h
    · rename_i a ha
      split at h
      · rename_i hc
        obtain ⟨h1, h2⟩ := hc
        split at h
        · rename_i b hb
          cases h
          simp only [Ty.w] at hl
          obtain ⟨x, hx⟩ := hg g (by simp)
          rw [h1] at hx
          obtain ⟨ι1, e1, vs1, H1, K1, R1, S1, L1, C1⟩ := ih g.type a ha fuel _ x hx ι σ H hro
          obtain ⟨ι2, e2, vs2, H2, K2, R2, S2, L2, C2⟩ := built_fields d ih r (off + a.w) b hb fuel cs (fun g' hg' => hg g' (by simp [hg'])) (by omega) ι1 (σ ++ e1) H1 R1
          refine ⟨ι2, e1 ++ e2, vs1 ++ vs2, by rw [← List.append_assoc]; exact H2, by rw [← List.append_assoc]; exact K1.trans K2, by rw [← List.append_assoc]; exact R2, ⟨vs1, vs2, rfl, by rw [← List.append_assoc]; exact S1.mono, by rw [← List.append_assoc]; exact S2⟩, ?_, fun i v y hv hy => ?_⟩
          · rw [List.length_append, L1, L2]
            simp; omega
          · have hl1 : vs1.length = a.w := S1.len
            by_cases hi : i < vs1.length
            · rw [List.getElem?_append_left hi] at hv
              have hy' : ((cs.drop off).take (P.cellsOf g.type))[i]? = some y := by
                rw [List.getElem?_take, if_pos (by omega)]; exact hy
              obtain ⟨q1, q2⟩ := C1 i v y hv hy'
              exact ⟨q1, fun β => by rw [← List.append_assoc]; exact (q2 β).cellMono K2 q1⟩
            · rw [List.getElem?_append_right (by omega)] at hv
              have hy' : (cs.drop (off + a.w))[i - vs1.length]? = some y := by
                rw [List.getElem?_drop] at hy ⊢
                have : off + a.w + (i - vs1.length) = off + i := by omega
                rw [this]; exact hy
              obtain ⟨q1, q2⟩ := C2 _ v y hv hy'
              exact ⟨q1, fun β => by rw [← List.append_assoc]; exact q2 β⟩
        · cases h
      · cases h
    · cases h

theorem add_off {b o : Nat} (n : Nat) : Addr.add ⟨b, o, none⟩ n = ⟨b, o + n, none⟩ := by
  unfold Addr.add
  split
  · rename_i h; subst h; rfl
  · rfl

theorem built_elems {d : Nat} (ih : ∀ (t : TypeId) (ty : Ty), tyOf P d t = some ty → ∀ (fuel : Nat) (cs : List Value) x, DataW.trod enc P W 0 (fun _ => true) true fuel t cs = some x → ∀ (ι : Inj) (σ : Heap), HRel ι σ W → AllRo σ → Built ι σ W ty cs)
    {e : TypeId} {te : Ty} (hte : tyOf P d e = some te) (hw : te.w = P.cellsOf e) {fuel b o : Nat} :
    ∀ (n : Nat), (∀ i, i < n → ∃ cs x, W.cells? 0 ⟨b, o + i * te.w, none⟩ te.w = some cs ∧ DataW.trod enc P W 0 (fun _ => true) true fuel e cs = some x) → ∀ (ι : Inj) (σ : Heap), HRel ι σ W → AllRo σ →
      ∃ (ι' : Inj) (ext : Heap) (bs : List V), HRel ι' (σ ++ ext) W ∧ Keeps ι σ ι' (σ ++ ext) ∧ AllRo (σ ++ ext) ∧ bs.length = n * te.w ∧ (∀ i, i < n → Sh (σ ++ ext) te ((bs.drop (i * te.w)).take te.w)) ∧
        ∀ (j : Nat) v, bs[j]? = some v → v.cell = true ∧ ∃ x, W.cell? ⟨b, o + j, none⟩ = some x ∧ ∀ β, Rel ι' (σ ++ ext) β v x
  | 0, _, ι, σ, H0, hro => ⟨ι, [], [], by simpa using H0, by simpa using Keeps.refl ι σ, by simpa using hro, by simp, fun i hi => absurd hi (Nat.not_lt_zero i), by simp⟩
  | n + 1, hn, ι, σ, H0, hro => by
    obtain ⟨ι1, e1, bs, H1, K1, R1, L1, S1, C1⟩ := built_elems ih hte hw n (fun i hi => hn i (Nat.lt_succ_of_lt hi)) ι σ H0 hro
    obtain ⟨cs, x, hc, hx⟩ := hn n (Nat.lt_succ_self n)
    obtain ⟨ι2, e2, vs, H2, K2, R2, S2, L2, C2⟩ := ih e te hte fuel cs x hx ι1 (σ ++ e1) H1 R1
    obtain ⟨_, hcl, hcg⟩ := World.cells?_some hc
    refine ⟨ι2, e1 ++ e2, bs ++ vs, by rw [← List.append_assoc]; exact H2, by rw [← List.append_assoc]; exact K1.trans K2, by rw [← List.append_assoc]; exact R2, ?_, fun i hi => ?_, fun j v hv => ?_⟩
    · rw [List.length_append, L1, L2, hcl, Nat.succ_mul]
    · rw [← List.append_assoc]
      by_cases h : i < n
      · have h1 : (i + 1) * te.w ≤ n * te.w := Nat.mul_le_mul_right _ h
        rw [Nat.succ_mul] at h1
        have : ((bs ++ vs).drop (i * te.w)).take te.w = (bs.drop (i * te.w)).take te.w := by
          rw [List.drop_append_of_le_length (by omega), List.take_append_of_le_length (by rw [List.length_drop]; omega)]
        rw [this]
        exact (S1 i h).mono
      · have : i = n := by omega
        subst this
        have : ((bs ++ vs).drop (i * te.w)).take te.w = vs := by
          rw [← L1, List.drop_left, List.take_of_length_le (by omega)]
        rw [this]
        exact S2
    · by_cases h : j < bs.length
      · rw [List.getElem?_append_left h] at hv
        obtain ⟨q1, y, q2, q3⟩ := C1 j v hv
        exact ⟨q1, y, q2, fun β => by rw [← List.append_assoc]; exact (q3 β).cellMono K2 q1⟩
      · rw [List.getElem?_append_right (by omega)] at hv
        have hlt := get_lt hv
        have hlt' : j - bs.length < te.w := by rw [← hcl, ← L2]; exact hlt
        have hg := hcg (j - bs.length) hlt'
        rw [add_off] at hg
        have e0 : o + n * te.w + (j - bs.length) = o + j := by omega
        rw [e0] at hg
        obtain ⟨y, hy⟩ : ∃ y, cs[j - bs.length]? = some y := ⟨_, List.getElem?_eq_getElem (by omega)⟩
        obtain ⟨q1, q2⟩ := C2 _ v y hv hy
        exact ⟨q1, y, hg.trans hy, fun β => by rw [← List.append_assoc]; exact q2 β⟩

theorem built_of_trod : ∀ (d : Nat) (t : TypeId) (ty : Ty), tyOf P d t = some ty → ∀ (fuel : Nat) (cs : List Value) x, DataW.trod enc P W 0 (fun _ => true) true fuel t cs = some x → ∀ (ι : Inj) (σ : Heap), HRel ι σ W → AllRo σ → Built ι σ W ty cs
  | 0, _, _, h => by simp [tyOf] at h
  | d + 1, t, ty, h => by
    intro fuel cs x hx ι σ H0 hro
    have one : ∀ (v : V) (y : Value), cs = [y] → v.cell = true → (∀ β, Rel ι σ β v y) → Sh σ ty [v] → Built ι σ W ty cs := by
      intro v y hc hv hr hs
      refine ⟨ι, [], [v], by simpa using H0, by simpa using Keeps.refl ι σ, by simpa using hro, by simpa using hs, by rw [hc]; rfl, fun i u z hu hz => ?_⟩
      rw [hc] at hz
      cases i with
      | zero => simp at hu hz; subst hu; subst hz; exact ⟨hv, by simpa using hr⟩
      | succ i => simp at hu
    unfold tyOf at h
    split at h
    · rename_i k hu
      cases h
      obtain ⟨n, hc, _, hwf⟩ := DataW.trod_int hu hx
      exact one (.int k n) _ hc rfl (fun β => .int k n) ⟨n, rfl, hwf⟩
    · rename_i hu
      cases h
      obtain ⟨b, hc, _⟩ := DataW.trod_bool hu hx
      exact one (.bool b) _ hc rfl (fun β => .bool b) ⟨b, rfl⟩
    · rename_i hu
      cases h
      obtain ⟨s, hc, _, hwf⟩ := DataW.trod_string hu hx
      exact one (.str s.data.toList) _ hc rfl (fun β => by have := Rel.str (ι := ι) (σ := σ) (β := β) s.data.toList; simpa using this) ⟨s.data.toList, rfl, by simpa using hwf⟩
    · rename_i e hu
      split at h
      · rename_i te hte
        split at h
        · rename_i hw
          obtain ⟨hw, hpos⟩ := hw
          cases h
          rcases DataW.trod_slice hu hx with ⟨hc, _⟩ | ⟨a, len, cap, elems, rest, n, _, hc, _, _, hle, hcap, hel, hE, hR, _⟩
          · exact one .nils _ hc rfl (fun β => .nils none) (.inl rfl)
          · obtain ⟨hrl, hR⟩ := hR rfl
            have hcell : ∀ i, i < cap → ∃ cs' y, W.cells? 0 (a.add (i * P.cellsOf e)) (P.cellsOf e) = some cs' ∧ DataW.trod enc P W 0 (fun _ => true) true n e cs' = some y := by
              intro i hi
              by_cases h : i < len
              · have h1 := hE i h
                obtain ⟨y, hy⟩ : ∃ y, elems[i]? = some y := ⟨_, List.getElem?_eq_getElem (by omega)⟩
                rw [hy, Option.bind_eq_some_iff] at h1
                obtain ⟨cs', h1, h2⟩ := h1
                exact ⟨cs', y, h1, h2⟩
              · have h1 := hR (i - len) (by omega)
                obtain ⟨y, hy⟩ : ∃ y, rest[i - len]? = some y := ⟨_, List.getElem?_eq_getElem (by omega)⟩
                rw [hy, Option.bind_eq_some_iff] at h1
                obtain ⟨cs', h1, h2⟩ := h1
                rw [show len + (i - len) = i by omega] at h1
                exact ⟨cs', y, h1, h2⟩
            by_cases hc0 : cap = 0
            · subst hc0
              have : len = 0 := by omega
              subst this
              exact one .nils _ hc rfl (fun β => .nils (some a)) (.inl rfl)
            · have hsp : a.spot = none ∧ a.block < W.heap.size := by
                obtain ⟨cs', y, h1, _⟩ := hcell 0 (by omega)
                obtain ⟨_, h2, h3⟩ := World.cells?_some h1
                have h4 := h3 0 (by omega)
                obtain ⟨z, hz⟩ : ∃ z, cs'[0]? = some z := ⟨_, List.getElem?_eq_getElem (by omega)⟩
                rw [hz] at h4
                have h5 : W.cell? a = some z := by simpa [Addr.add] using h4
                exact ⟨World.cell?_spot h5, cell_block_lt h5⟩
              obtain ⟨ab, ao, asp⟩ := a
              obtain ⟨hsp, hlt⟩ := hsp
              simp only at hsp hlt
              subst hsp
              have hcell' : ∀ i, i < len → ∃ cs' y, W.cells? 0 ⟨ab, ao + i * te.w, none⟩ te.w = some cs' ∧ DataW.trod enc P W 0 (fun _ => true) true n e cs' = some y := by
                intro i hi
                have := hcell i (by omega)
                rw [add_off, ← hw] at this
                exact this
              obtain ⟨ι1, e1, bs, H1, K1, R1, L1, S1, C1⟩ := built_elems (built_of_trod d) hte hw len hcell' ι σ H0 hro
              obtain ⟨H2, R2⟩ := H1.lay R1 (c := cap * te.w) (wd := te.w) hlt C1
              have K2 := keeps_push ι1 (σ ++ e1) ⟨ab, ao, cap * te.w⟩ ⟨.ro, te.w, bs⟩
              have hg : ((σ ++ e1) ++ [(⟨.ro, te.w, bs⟩ : Blk)])[(σ ++ e1).length]? = some ⟨.ro, te.w, bs⟩ := by simp
              refine ⟨_, e1 ++ [⟨.ro, te.w, bs⟩], [.slice (σ ++ e1).length 0 len], by rw [← List.append_assoc]; exact H2, by rw [← List.append_assoc]; exact K1.trans K2, by rw [← List.append_assoc]; exact R2, .inr ⟨_, len, bs, rfl, by rw [← List.append_assoc]; exact hg, L1, by omega, fun i hi => by rw [← List.append_assoc]; exact (S1 i hi).mono⟩, by rw [hc]; rfl, fun i u z hu hz => ?_⟩
              rw [hc] at hz
              cases i with
              | zero =>
                simp at hu hz; subst hu; subst hz
                refine ⟨rfl, fun β => ?_⟩
                have := Rel.slice (ι := upd ι1 (σ ++ e1).length ⟨ab, ao, cap * te.w⟩) (σ := (σ ++ e1) ++ [⟨.ro, te.w, bs⟩]) (β := β) (σ ++ e1).length 0 len cap ⟨.ro, te.w, bs⟩ hg hle (by rw [upd_same]; simp)
                rw [upd_same] at this
                simpa using this
              | succ i => simp at hu
        · cases h
      · cases h
    · rename_i fs hu
      split at h
      · rename_i ty' hty
        split at h
        · rename_i hw
          cases h
          obtain ⟨xs, n, _, _, hl, hxl, hf⟩ := DataW.trod_struct hu hx
          have := built_fields (enc := enc) d (built_of_trod d) fs.toList 0 _ hty n cs (fun g hg => by
            obtain ⟨i, hi⟩ := List.getElem?_of_mem hg
            have h1 := hf i g (by simpa using hi)
            have : i < xs.length := by rw [hxl]; have := get_lt hi; simpa using this
            exact ⟨_, h1.trans (List.getElem?_eq_getElem this)⟩) (by omega) ι σ H0 hro
          simpa using this
        · cases h
      · cases h
    · cases h
end
end Go.Ag
