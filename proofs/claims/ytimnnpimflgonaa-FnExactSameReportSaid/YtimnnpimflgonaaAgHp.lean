/-
  SLICES IN THE ABSTRACT HEAP: what a value reads as; what new blocks and stores leave.
-/
import Derived.Test.YtimnnpimflgonaaAgWp
import Derived.Laws.BitsLemmas
import Derived.Test.YtimnnpimflgonaaAgLaw
namespace Go.Ag

/-- A slice of n elements of w cells, and the cells. -/
def Rd (h : Heap) (v : V) (w n : Nat) (cs : List V) : Prop :=
  (v = .nils ∧ n = 0 ∧ cs = []) ∨ ∃ b o, v = .slice b o n ∧ rd h b o (n * w) = some cs ∧ widthOf h b = some w

theorem rd_some {h : Heap} {l o n : Nat} {cs : List V} (e : rd h l o n = some cs) : ∃ b : Blk, h[l]? = some b ∧ b.k ≠ .dead ∧ o + n ≤ b.cs.length ∧ cs = (b.cs.drop o).take n := by
  unfold rd at e
  split at e
  · rename_i b hb
    split at e
    · rename_i hc; cases e; exact ⟨b, hb, hc.1, hc.2, rfl⟩
    · cases e
  · cases e
theorem rd_mk {h : Heap} {l o n : Nat} {b : Blk} (hb : h[l]? = some b) (hk : b.k ≠ .dead) (hn : o + n ≤ b.cs.length) : rd h l o n = some ((b.cs.drop o).take n) := by
  unfold rd
  rw [hb]
  exact if_pos ⟨hk, hn⟩
theorem rd_append {h : Heap} (e : Heap) {l o n : Nat} {cs : List V} (r : rd h l o n = some cs) : rd (h ++ e) l o n = some cs := by
  obtain ⟨b, hb, hk, hn, rfl⟩ := rd_some r
  have hlt : l < h.length := by
    rcases Nat.lt_or_ge l h.length with h1 | h1
    · exact h1
    · rw [List.getElem?_eq_none h1] at hb; cases hb
  exact rd_mk (by rw [List.getElem?_append_left hlt]; exact hb) hk hn
theorem width_append {h : Heap} (e : Heap) {l w : Nat} (r : widthOf h l = some w) : widthOf (h ++ e) l = some w := by
  unfold widthOf at r ⊢
  split at r
  · rename_i b hb
    have hlt : l < h.length := by
      rcases Nat.lt_or_ge l h.length with h1 | h1
      · exact h1
      · rw [List.getElem?_eq_none h1] at hb; cases hb
    rw [List.getElem?_append_left hlt, hb]
    exact r
  · cases r
theorem Rd.append {h : Heap} (e : Heap) {v : V} {w n : Nat} {cs : List V} (r : Rd h v w n cs) : Rd (h ++ e) v w n cs := by
  rcases r with r | ⟨b, o, h1, h2, h3⟩
  · exact .inl r
  · exact .inr ⟨b, o, h1, rd_append e h2, width_append e h3⟩
theorem Rd.length {h : Heap} {v : V} {w n : Nat} {cs : List V} (r : Rd h v w n cs) : cs.length = n * w := by
  rcases r with ⟨_, rfl, rfl⟩ | ⟨b, o, _, h2, _⟩
  · simp
  · obtain ⟨b, hb, hk, hn, rfl⟩ := rd_some h2
    rw [List.length_take, List.length_drop]
    omega
theorem Rd.len {h : Heap} {v : V} {w n : Nat} {cs : List V} (r : Rd h v w n cs) : v_len v = some (.int .i64 n) := by
  rcases r with ⟨rfl, rfl, rfl⟩ | ⟨b, o, rfl, _⟩ <;> rfl
theorem Rd.cell {h : Heap} {v : V} {w n : Nat} {cs : List V} (r : Rd h v w n cs) : v.cell = true ∧ v.ok1 = true ∧ v.cells = [v] ∧ ∀ i, v.isBox i = false := by
  rcases r with ⟨rfl, rfl, rfl⟩ | ⟨b, o, rfl, _⟩ <;> exact ⟨rfl, rfl, rfl, fun _ => rfl⟩
/-- An element's address, and what is read there. -/
theorem Rd.idx {h : Heap} {v : V} {w n : Nat} {cs : List V} (r : Rd h v w n cs) (j : Nat) (hj : j < n) (k : IntKind) :
    ∃ b p, v_indexA w v (.int k j) = some (.ptr b p) ∧ ∀ off m, off + m ≤ w → rd h b (p + off) m = some ((cs.drop (j * w + off)).take m) := by
  rcases r with ⟨_, rfl, _⟩ | ⟨b, o, rfl, h2, h3⟩
  · omega
  · refine ⟨b, o + j * w, ?_, fun off m hm => ?_⟩
    · show (if 0 ≤ (j : Int) ∧ (j : Int) < n then some (V.ptr b (o + (j : Int).toNat * w)) else none) = _
      rw [if_pos (by omega), Int.toNat_natCast]
    · obtain ⟨blk, hb, hk, hn, rfl⟩ := rd_some h2
      have h4 : (j + 1) * w ≤ n * w := Nat.mul_le_mul_right w hj
      rw [Nat.succ_mul] at h4
      rw [rd_mk hb hk (by omega), List.drop_take, List.take_take, List.drop_drop]
      congr 2
      · omega
      · congr 1; omega
/-- An element of one cell. -/
theorem Rd.get1 {h : Heap} {v : V} {n : Nat} {cs : List V} (r : Rd h v 1 n cs) (j : Nat) (hj : j < n) (k : IntKind) {c : V} (hc : cs[j]? = some c) :
    ∃ b p, v_indexA 1 v (.int k j) = some (.ptr b p) ∧ v_loadH h none (.ptr b p) = some c := by
  obtain ⟨b, p, h1, h2⟩ := r.idx j hj k
  refine ⟨b, p, h1, ?_⟩
  have h3 := h2 0 1 (by omega)
  simp only [Nat.add_zero, Nat.mul_one] at h3
  have hlt : j < cs.length := by
    rcases Nat.lt_or_ge j cs.length with h1 | h1
    · exact h1
    · rw [List.getElem?_eq_none h1] at hc; cases hc
  have h4 : (cs.drop j).take 1 = [c] := by
    rw [List.drop_eq_getElem_cons hlt]
    rw [List.getElem?_eq_getElem hlt] at hc
    cases hc
    rfl
  show (rd h b p 1).bind _ = _
  rw [h3, h4]
  rfl

theorem wr_mk {h : Heap} {l o : Nat} {vs : List V} {b : Blk} (hb : h[l]? = some b) (hk : b.k = .own) (hn : o + vs.length ≤ b.cs.length) : wr h l o vs = some (h.set l { b with cs := splice b.cs o vs }) := by
  unfold wr
  rw [hb]
  exact if_pos ⟨hk, hn⟩

/-- The block laid last. -/
theorem last_get (h : Heap) (b : Blk) : (h ++ [b])[h.length]? = some b := by simp
theorem last_set (h : Heap) (b b' : Blk) : (h ++ [b]).set h.length b' = h ++ [b'] := by simp
theorem rep_one (z : V) : ∀ n, rep [z] n = List.replicate n z
  | 0 => rfl
  | n + 1 => by rw [List.replicate_succ, ← rep_one z n]; rfl

/-- Ints, bytes. -/
def ints (l : List Int) : List V := l.map (V.int .i64)
def bytesV (l : List Int) : List V := l.map (V.int .u8)
theorem ints_get {l : List Int} {j : Nat} (hj : j < l.length) : (ints l)[j]? = some (.int .i64 l[j]) := by simp [ints, hj]
theorem bytesV_get {l : List Int} {j : Nat} (hj : j < l.length) : (bytesV l)[j]? = some (.int .u8 l[j]) := by simp [bytesV, hj]
theorem splice_one : ∀ (cs : List V) (o : Nat) (v : V), o < cs.length → splice cs o [v] = cs.set o v
  | [], o, v, h => by simp at h
  | c :: cs, 0, v, _ => by simp [splice]
  | c :: cs, o + 1, v, h => by simp [splice]; exact splice_one cs o v (by simpa using h)

theorem wrap64 {x : Int} (h : -9223372036854775808 ≤ x ∧ x ≤ 9223372036854775807) : IntKind.i64.wrap x = x := by
  rw [IntKind.wrap_i64]
  omega

theorem mk_slice {bx : List (List V)} {hp : Heap} {w n : Nat} {z : List V} (hz : z.length = w) (hw : 0 < w) (hc : z.all V.cell = true) (hr : n * w ≤ 2 ^ 40) :
    x_mkSlice bx hp w z (.int .i64 (n : Int)) = if n = 0 then some (.nils, bx, hp) else some (.slice hp.length 0 n, bx, hp ++ [⟨.own, w, rep z n⟩]) := by
  show (if 0 ≤ (n : Int) ∧ z.length = w ∧ 0 < w ∧ z.all V.cell ∧ roomy ((n : Int).toNat * w) then (if (n : Int) = 0 then some (V.nils, bx, hp) else some (V.slice hp.length 0 (n : Int).toNat, bx, hp ++ [⟨.own, w, rep z (n : Int).toNat⟩])) else none) = _
  rw [if_pos ⟨by omega, hz, hw, hc, by rw [Int.toNat_natCast]; exact hr⟩, Int.toNat_natCast]
  by_cases h : n = 0
  · subst h; rfl
  · rw [if_neg (by omega), if_neg h]

/-- A store into the block laid last. -/
theorem store_last {bx : List (List V)} {h : Heap} {w o : Nat} {cs : List V} {x : V} (hx : x.cell = true) (hl : o < cs.length) :
    x_storeH bx (h ++ [⟨.own, w, cs⟩]) 1 (.ptr h.length o) x = some (.undef, bx, h ++ [⟨.own, w, cs.set o x⟩]) := by
  have hcs : x.cells = [x] := by cases x <;> first | rfl | (simp [V.cell] at hx)
  show (if x.cells.length = 1 ∧ x.cells.all V.cell then (wr (h ++ [⟨.own, w, cs⟩]) h.length o x.cells).bind fun h => some (V.undef, bx, h) else none) = _
  rw [hcs, if_pos (by simp [hx]), wr_mk (last_get h _) rfl (by simp; omega), last_set, splice_one cs o x hl]
  rfl
theorem idx_mk {w l o n j : Nat} {k : IntKind} (hj : j < n) : v_indexA w (.slice l o n) (.int k (j : Int)) = some (.ptr l (o + j * w)) := by
  show (if 0 ≤ (j : Int) ∧ (j : Int) < n then some (V.ptr l (o + (j : Int).toNat * w)) else none) = _
  rw [if_pos (by omega), Int.toNat_natCast]

/-- One more place is filled. -/
theorem fill_step {xs : List V} {z : V} {i n : Nat} {x : V} (hn : xs.length = n) (hi : i < n) (hx : xs[i]? = some x) :
    (xs.take i ++ List.replicate (n - i) z).set i x = xs.take (i + 1) ++ List.replicate (n - (i + 1)) z := by
  have h1 : n - i = (n - (i + 1)) + 1 := by omega
  have hl : (xs.take i).length = i := by rw [List.length_take]; omega
  have h2 : xs[i]'(by omega) = x := by rw [List.getElem?_eq_getElem (by omega)] at hx; exact Option.some.inj hx
  rw [h1, List.replicate_succ, List.set_append_right _ _ (by omega), hl, Nat.sub_self, List.set_cons_zero, List.take_succ_eq_append_getElem (by omega), h2]
  simp

/-- A slice of numbers among the arguments. -/
theorem sh_ints {σ : Heap} {q : IntKind} {v : V} (h : Sh σ (.sl (.int q)) [v]) : ∃ l : List Int, Rd σ v 1 l.length (l.map (V.int q)) ∧ l.length ≤ maxLen ∧ ∀ x ∈ l, (Lit.int q x).wf = true := by
  rcases h with h | ⟨b, n, bs, h1, h2, h3, h4, h5⟩
  · exact ⟨[], .inl ⟨(List.cons.inj h).1, rfl, rfl⟩, by simp, by simp⟩
  · have hv := (List.cons.inj h1).1
    subst hv
    simp only [Ty.w, Nat.mul_one] at h3 h5
    have : ∃ l : List Int, bs = l.map (V.int q) ∧ ∀ x ∈ l, (Lit.int q x).wf = true := by
      clear h2 h4 h1
      induction bs generalizing n with
      | nil => exact ⟨[], rfl, by simp⟩
      | cons c bs ih =>
        have h0 := h5 0 (by simp at h3; omega)
        obtain ⟨x, hx, hw⟩ := h0
        simp at hx
        obtain ⟨l, hl, hwl⟩ := ih (n - 1) (by simp at h3; omega) fun i hi => by
          have := h5 (i + 1) (by omega)
          simpa using this
        refine ⟨x :: l, by rw [hx, hl]; rfl, fun y hy => ?_⟩
        rcases List.mem_cons.1 hy with rfl | hy
        · exact hw
        · exact hwl y hy
    obtain ⟨l, rfl, hw⟩ := this
    have hn : l.length = n := by simpa using h3
    subst hn
    refine ⟨l, .inr ⟨b, 0, rfl, ?_, ?_⟩, h4, hw⟩
    · rw [rd_mk h2 (by simp) (by simp)]
      simp [List.take_of_length_le]
    · simp [widthOf, h2, Ty.w]
theorem maxLen_le : maxLen ≤ 9223372036854775807 := by decide
end Go.Ag
