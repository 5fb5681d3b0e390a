/-
  WHAT THE FUNCTIONS OF THE FIRST ROWS COMPUTE.
-/
import Derived.Test.YtimnnpimflgonaaAgPR1
import Derived.Test.YtimnnpimflgonaaAgWp
import Derived.Test.YtimnnpimflgonaaAgLaw
namespace Go.Ag
set_option maxRecDepth 4000
set_option linter.unusedSimpArgs false

theorem args1 {σ : Heap} {a : Ty × Bool} {us : List V} (h : ArgsOk σ [a] us) : ∃ u, us = [u] ∧ ArgOk σ a u := by
  cases us with
  | nil => exact h.elim
  | cons u r =>
    cases r with
    | nil => exact ⟨u, rfl, h.1⟩
    | cons v r => exact h.2.elim
theorem argInt {σ : Heap} {k : IntKind} {u : V} (h : ArgOk σ (.int k, false) u) : ∃ n, u = .int k n ∧ (Lit.int k n).wf = true := by
  obtain ⟨⟨n, hn, hw⟩, _⟩ := h
  exact ⟨n, (List.cons.inj hn).1, hw⟩

theorem p_spec_l1In (a b c : Int) (h : Heap) (Q : V → Heap → Prop) (hQ : Q (.bool (decide (b ≤ a ∧ a ≤ c))) h) : s_spec_l1In [.int .i64 a, .int .i64 b, .int .i64 c] h Q := by
  unfold s_spec_l1In
  refine fun_intro rfl ?_
  unfold c_spec_l1In
  repeat' (first | (simp only [go_sem, reduceIte, reduceCtorEq, Nat.reduceAdd, Nat.reduceBEq, Int.reduceLT, Int.reduceLE, Int.reduceGT, Int.reduceGE, Int.reduceBEq, Int.reduceBNe, Nat.reduceEqDiff, Nat.reduceLeDiff, Nat.reduceLT]) | (refine aops_part rfl (fun hb => ?_) (fun hb => ?_) <;> simp only [hb, go_sem, reduceIte, reduceCtorEq, Nat.reduceAdd, Nat.reduceBEq, Int.reduceLT, Int.reduceLE, Int.reduceGT, Int.reduceGE, Int.reduceBEq, Int.reduceBNe, Nat.reduceEqDiff, Nat.reduceLeDiff, Nat.reduceLT]) | (refine awp_part rfl (fun hb => ?_) (fun hb => ?_) <;> simp only [hb, go_sem, reduceIte, reduceCtorEq, Nat.reduceAdd, Nat.reduceBEq, Int.reduceLT, Int.reduceLE, Int.reduceGT, Int.reduceGE, Int.reduceBEq, Int.reduceBNe, Nat.reduceEqDiff, Nat.reduceLeDiff, Nat.reduceLT]) | (refine wop_pick_part rfl (fun hb => ?_) (fun hb => ?_) <;> simp only [hb, go_sem, reduceIte, reduceCtorEq, Nat.reduceAdd, Nat.reduceBEq, Int.reduceLT, Int.reduceLE, Int.reduceGT, Int.reduceGE, Int.reduceBEq, Int.reduceBNe, Nat.reduceEqDiff, Nat.reduceLeDiff, Nat.reduceLT]))
  all_goals (refine leafB hQ (Bool.eq_iff_iff.mpr ?_); clear hQ; (try simp only [eq_self, true_iff, false_iff, iff_true, iff_false, decide_eq_true_eq, decide_eq_false_iff_not, Bool.false_eq_true, beq_iff_eq, beq_eq_false_iff_ne, bne_iff_ne, ne_eq, Bool.not_eq_true, Bool.not_eq_true', Bool.not_eq_false'] at *); omega)

def isWord (a : Int) : Prop := (1 ≤ a ∧ a ≤ 36) ∨ a = 39 ∨ a = 42
instance (a : Int) : Decidable (isWord a) := inferInstanceAs (Decidable ((1 ≤ a ∧ a ≤ 36) ∨ a = 39 ∨ a = 42))

theorem p_spec_IsWordCode (a : Int) (h : Heap) (Q : V → Heap → Prop) (hQ : Q (.bool (decide (isWord a))) h) : s_spec_IsWordCode [.int .i64 a] h Q := by
  unfold s_spec_IsWordCode
  refine fun_intro rfl ?_
  unfold c_spec_IsWordCode
  repeat' (first | (simp only [go_sem, reduceIte, reduceCtorEq, Nat.reduceAdd, Nat.reduceBEq, Int.reduceLT, Int.reduceLE, Int.reduceGT, Int.reduceGE, Int.reduceBEq, Int.reduceBNe, Nat.reduceEqDiff, Nat.reduceLeDiff, Nat.reduceLT]) | (refine callP (p_spec_l1In _ _ _) ?_) | (refine aops_part rfl (fun hb => ?_) (fun hb => ?_) <;> simp only [hb, go_sem, reduceIte, reduceCtorEq, Nat.reduceAdd, Nat.reduceBEq, Int.reduceLT, Int.reduceLE, Int.reduceGT, Int.reduceGE, Int.reduceBEq, Int.reduceBNe, Nat.reduceEqDiff, Nat.reduceLeDiff, Nat.reduceLT]) | (refine awp_part rfl (fun hb => ?_) (fun hb => ?_) <;> simp only [hb, go_sem, reduceIte, reduceCtorEq, Nat.reduceAdd, Nat.reduceBEq, Int.reduceLT, Int.reduceLE, Int.reduceGT, Int.reduceGE, Int.reduceBEq, Int.reduceBNe, Nat.reduceEqDiff, Nat.reduceLeDiff, Nat.reduceLT]) | (refine wop_pick_part rfl (fun hb => ?_) (fun hb => ?_) <;> simp only [hb, go_sem, reduceIte, reduceCtorEq, Nat.reduceAdd, Nat.reduceBEq, Int.reduceLT, Int.reduceLE, Int.reduceGT, Int.reduceGE, Int.reduceBEq, Int.reduceBNe, Nat.reduceEqDiff, Nat.reduceLeDiff, Nat.reduceLT]))
  all_goals (refine leafB hQ (Bool.eq_iff_iff.mpr ?_); clear hQ; (try simp only [eq_self, true_iff, false_iff, iff_true, iff_false, decide_eq_true_eq, decide_eq_false_iff_not, Bool.false_eq_true, beq_iff_eq, beq_eq_false_iff_ne, bne_iff_ne, ne_eq, Bool.not_eq_true, Bool.not_eq_true', Bool.not_eq_false'] at *); (try simp only [isWord] at *); omega)
theorem p_impl_IsWordCode (a : Int) (h : Heap) (Q : V → Heap → Prop) (hQ : Q (.bool (decide (isWord a))) h) : s_impl_IsWordCode [.int .i64 a] h Q := by
  unfold s_impl_IsWordCode
  refine fun_intro rfl ?_
  unfold c_impl_IsWordCode
  repeat' (first | (simp only [go_sem, reduceIte, reduceCtorEq, Nat.reduceAdd, Nat.reduceBEq, Int.reduceLT, Int.reduceLE, Int.reduceGT, Int.reduceGE, Int.reduceBEq, Int.reduceBNe, Nat.reduceEqDiff, Nat.reduceLeDiff, Nat.reduceLT]) | (refine aops_part rfl (fun hb => ?_) (fun hb => ?_) <;> simp only [hb, go_sem, reduceIte, reduceCtorEq, Nat.reduceAdd, Nat.reduceBEq, Int.reduceLT, Int.reduceLE, Int.reduceGT, Int.reduceGE, Int.reduceBEq, Int.reduceBNe, Nat.reduceEqDiff, Nat.reduceLeDiff, Nat.reduceLT]) | (refine awp_part rfl (fun hb => ?_) (fun hb => ?_) <;> simp only [hb, go_sem, reduceIte, reduceCtorEq, Nat.reduceAdd, Nat.reduceBEq, Int.reduceLT, Int.reduceLE, Int.reduceGT, Int.reduceGE, Int.reduceBEq, Int.reduceBNe, Nat.reduceEqDiff, Nat.reduceLeDiff, Nat.reduceLT]) | (refine wop_pick_part rfl (fun hb => ?_) (fun hb => ?_) <;> simp only [hb, go_sem, reduceIte, reduceCtorEq, Nat.reduceAdd, Nat.reduceBEq, Int.reduceLT, Int.reduceLE, Int.reduceGT, Int.reduceGE, Int.reduceBEq, Int.reduceBNe, Nat.reduceEqDiff, Nat.reduceLeDiff, Nat.reduceLT]))
  all_goals (refine leafB hQ (Bool.eq_iff_iff.mpr ?_); clear hQ; (try simp only [eq_self, true_iff, false_iff, iff_true, iff_false, decide_eq_true_eq, decide_eq_false_iff_not, Bool.false_eq_true, beq_iff_eq, beq_eq_false_iff_ne, bne_iff_ne, ne_eq, Bool.not_eq_true, Bool.not_eq_true', Bool.not_eq_false'] at *); (try simp only [isWord] at *); omega)

theorem p_FnExactIsWordCode (a : Int) (h : Heap) : s_laws_FnExactIsWordCode [.int .i64 a] h fun r _ => r = .bool true := by
  unfold s_laws_FnExactIsWordCode
  refine fun_intro rfl ?_
  unfold c_laws_FnExactIsWordCode
  repeat' (first | (simp only [go_sem, reduceIte, reduceCtorEq, Nat.reduceAdd, Nat.reduceBEq, Int.reduceLT, Int.reduceLE, Int.reduceGT, Int.reduceGE, Int.reduceBEq, Int.reduceBNe, Nat.reduceEqDiff, Nat.reduceLeDiff, Nat.reduceLT]) | (refine callP (p_spec_IsWordCode _) ?_) | (refine callP (p_impl_IsWordCode _) ?_) | (refine aops_part rfl (fun hb => ?_) (fun hb => ?_) <;> simp only [hb, go_sem, reduceIte, reduceCtorEq, Nat.reduceAdd, Nat.reduceBEq, Int.reduceLT, Int.reduceLE, Int.reduceGT, Int.reduceGE, Int.reduceBEq, Int.reduceBNe, Nat.reduceEqDiff, Nat.reduceLeDiff, Nat.reduceLT]) | (refine awp_part rfl (fun hb => ?_) (fun hb => ?_) <;> simp only [hb, go_sem, reduceIte, reduceCtorEq, Nat.reduceAdd, Nat.reduceBEq, Int.reduceLT, Int.reduceLE, Int.reduceGT, Int.reduceGE, Int.reduceBEq, Int.reduceBNe, Nat.reduceEqDiff, Nat.reduceLeDiff, Nat.reduceLT]) | (refine wop_pick_part rfl (fun hb => ?_) (fun hb => ?_) <;> simp only [hb, go_sem, reduceIte, reduceCtorEq, Nat.reduceAdd, Nat.reduceBEq, Int.reduceLT, Int.reduceLE, Int.reduceGT, Int.reduceGE, Int.reduceBEq, Int.reduceBNe, Nat.reduceEqDiff, Nat.reduceLeDiff, Nat.reduceLT]))
  all_goals simp_all

theorem law_FnExactIsWordCode (σ : Heap) (us : List V) (_ : AllRo σ) (h : ArgsOk σ [(.int .i64, false)] us) : s_laws_FnExactIsWordCode us σ fun r _ => r = .bool true := by
  obtain ⟨u, rfl, hu⟩ := args1 h
  obtain ⟨n, rfl, hn⟩ := argInt hu
  exact p_FnExactIsWordCode n σ
end Go.Ag
