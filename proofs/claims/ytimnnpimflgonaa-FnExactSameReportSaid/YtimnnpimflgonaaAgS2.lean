/-
  WHAT THE FUNCTIONS OF THE SECOND ROW COMPUTE.
-/
import Derived.Test.YtimnnpimflgonaaAgS1
namespace Go.Ag
set_option maxRecDepth 4000
set_option linter.unusedSimpArgs false

theorem p_laws_toTiming (a b c : Int) (h : Heap) (Q : V → Heap → Prop) (hQ : Q (.agg [.int .i64 a, .int .i64 b, .int .i64 c]) h) : s_laws_toTiming [.agg [.int .i64 a, .int .i64 b, .int .i64 c]] h Q := by
  unfold s_laws_toTiming
  refine fun_intro rfl ?_
  unfold c_laws_toTiming
  repeat' (first | (simp only [go_sem, reduceIte, reduceCtorEq, Nat.reduceAdd, Nat.reduceBEq, Int.reduceLT, Int.reduceLE, Int.reduceGT, Int.reduceGE, Int.reduceBEq, Int.reduceBNe, Nat.reduceEqDiff, Nat.reduceLeDiff, Nat.reduceLT]) | (refine aops_part rfl (fun hb => ?_) (fun hb => ?_) <;> simp only [hb, go_sem, reduceIte, reduceCtorEq, Nat.reduceAdd, Nat.reduceBEq, Int.reduceLT, Int.reduceLE, Int.reduceGT, Int.reduceGE, Int.reduceBEq, Int.reduceBNe, Nat.reduceEqDiff, Nat.reduceLeDiff, Nat.reduceLT]) | (refine awp_part rfl (fun hb => ?_) (fun hb => ?_) <;> simp only [hb, go_sem, reduceIte, reduceCtorEq, Nat.reduceAdd, Nat.reduceBEq, Int.reduceLT, Int.reduceLE, Int.reduceGT, Int.reduceGE, Int.reduceBEq, Int.reduceBNe, Nat.reduceEqDiff, Nat.reduceLeDiff, Nat.reduceLT]) | (refine wop_pick_part rfl (fun hb => ?_) (fun hb => ?_) <;> simp only [hb, go_sem, reduceIte, reduceCtorEq, Nat.reduceAdd, Nat.reduceBEq, Int.reduceLT, Int.reduceLE, Int.reduceGT, Int.reduceGE, Int.reduceBEq, Int.reduceBNe, Nat.reduceEqDiff, Nat.reduceLeDiff, Nat.reduceLT]))
  exact hQ

def isTiming (a b c : Int) : Prop := 1 ≤ a ∧ a ≤ 1000 ∧ 0 ≤ b ∧ b ≤ 1000 ∧ 0 ≤ c ∧ c ≤ 2
instance (a b c : Int) : Decidable (isTiming a b c) := inferInstanceAs (Decidable (1 ≤ a ∧ a ≤ 1000 ∧ 0 ≤ b ∧ b ≤ 1000 ∧ 0 ≤ c ∧ c ≤ 2))

theorem p_spec_IsTiming (a b c : Int) (h : Heap) (Q : V → Heap → Prop) (hQ : Q (.bool (decide (isTiming a b c))) h) : s_spec_IsTiming [.agg [.int .i64 a, .int .i64 b, .int .i64 c]] h Q := by
  unfold s_spec_IsTiming
  refine fun_intro rfl ?_
  unfold c_spec_IsTiming
  repeat' (first | (simp only [go_sem, reduceIte, reduceCtorEq, Nat.reduceAdd, Nat.reduceBEq, Int.reduceLT, Int.reduceLE, Int.reduceGT, Int.reduceGE, Int.reduceBEq, Int.reduceBNe, Nat.reduceEqDiff, Nat.reduceLeDiff, Nat.reduceLT]) | (refine callP (p_spec_l1In _ _ _) ?_) | (refine aops_part rfl (fun hb => ?_) (fun hb => ?_) <;> simp only [hb, go_sem, reduceIte, reduceCtorEq, Nat.reduceAdd, Nat.reduceBEq, Int.reduceLT, Int.reduceLE, Int.reduceGT, Int.reduceGE, Int.reduceBEq, Int.reduceBNe, Nat.reduceEqDiff, Nat.reduceLeDiff, Nat.reduceLT]) | (refine awp_part rfl (fun hb => ?_) (fun hb => ?_) <;> simp only [hb, go_sem, reduceIte, reduceCtorEq, Nat.reduceAdd, Nat.reduceBEq, Int.reduceLT, Int.reduceLE, Int.reduceGT, Int.reduceGE, Int.reduceBEq, Int.reduceBNe, Nat.reduceEqDiff, Nat.reduceLeDiff, Nat.reduceLT]) | (refine wop_pick_part rfl (fun hb => ?_) (fun hb => ?_) <;> simp only [hb, go_sem, reduceIte, reduceCtorEq, Nat.reduceAdd, Nat.reduceBEq, Int.reduceLT, Int.reduceLE, Int.reduceGT, Int.reduceGE, Int.reduceBEq, Int.reduceBNe, Nat.reduceEqDiff, Nat.reduceLeDiff, Nat.reduceLT]))
  all_goals (refine leafB hQ (Bool.eq_iff_iff.mpr ?_); clear hQ; (try simp only [eq_self, true_iff, false_iff, iff_true, iff_false, decide_eq_true_eq, decide_eq_false_iff_not, Bool.false_eq_true, beq_iff_eq, beq_eq_false_iff_ne, bne_iff_ne, ne_eq, Bool.not_eq_true, Bool.not_eq_true', Bool.not_eq_false'] at *); (try simp only [isTiming] at *); omega)

theorem p_impl_IsTiming (a b c : Int) (h : Heap) (Q : V → Heap → Prop) (hQ : Q (.bool (decide (isTiming a b c))) h) : s_impl_IsTiming [.agg [.int .i64 a, .int .i64 b, .int .i64 c]] h Q := by
  unfold s_impl_IsTiming
  refine fun_intro rfl ?_
  unfold c_impl_IsTiming
  repeat' (first | (simp only [go_sem, reduceIte, reduceCtorEq, Nat.reduceAdd, Nat.reduceBEq, Int.reduceLT, Int.reduceLE, Int.reduceGT, Int.reduceGE, Int.reduceBEq, Int.reduceBNe, Nat.reduceEqDiff, Nat.reduceLeDiff, Nat.reduceLT]) | (refine aops_part rfl (fun hb => ?_) (fun hb => ?_) <;> simp only [hb, go_sem, reduceIte, reduceCtorEq, Nat.reduceAdd, Nat.reduceBEq, Int.reduceLT, Int.reduceLE, Int.reduceGT, Int.reduceGE, Int.reduceBEq, Int.reduceBNe, Nat.reduceEqDiff, Nat.reduceLeDiff, Nat.reduceLT]) | (refine awp_part rfl (fun hb => ?_) (fun hb => ?_) <;> simp only [hb, go_sem, reduceIte, reduceCtorEq, Nat.reduceAdd, Nat.reduceBEq, Int.reduceLT, Int.reduceLE, Int.reduceGT, Int.reduceGE, Int.reduceBEq, Int.reduceBNe, Nat.reduceEqDiff, Nat.reduceLeDiff, Nat.reduceLT]) | (refine wop_pick_part rfl (fun hb => ?_) (fun hb => ?_) <;> simp only [hb, go_sem, reduceIte, reduceCtorEq, Nat.reduceAdd, Nat.reduceBEq, Int.reduceLT, Int.reduceLE, Int.reduceGT, Int.reduceGE, Int.reduceBEq, Int.reduceBNe, Nat.reduceEqDiff, Nat.reduceLeDiff, Nat.reduceLT]))
  all_goals (refine leafB hQ (Bool.eq_iff_iff.mpr ?_); clear hQ; (try simp only [eq_self, true_iff, false_iff, iff_true, iff_false, decide_eq_true_eq, decide_eq_false_iff_not, Bool.false_eq_true, beq_iff_eq, beq_eq_false_iff_ne, bne_iff_ne, ne_eq, Bool.not_eq_true, Bool.not_eq_true', Bool.not_eq_false'] at *); (try simp only [isTiming] at *); omega)

theorem p_FnExactIsTiming (a b c : Int) (h : Heap) : s_laws_FnExactIsTiming [.agg [.int .i64 a, .int .i64 b, .int .i64 c]] h fun r _ => r = .bool true := by
  unfold s_laws_FnExactIsTiming
  refine fun_intro rfl ?_
  unfold c_laws_FnExactIsTiming
  repeat' (first | (simp only [go_sem, reduceIte, reduceCtorEq, Nat.reduceAdd, Nat.reduceBEq, Int.reduceLT, Int.reduceLE, Int.reduceGT, Int.reduceGE, Int.reduceBEq, Int.reduceBNe, Nat.reduceEqDiff, Nat.reduceLeDiff, Nat.reduceLT]) | (refine callP (p_laws_toTiming _ _ _) ?_) | (refine callP (p_spec_IsTiming _ _ _) ?_) | (refine callP (p_impl_IsTiming _ _ _) ?_) | (refine aops_part rfl (fun hb => ?_) (fun hb => ?_) <;> simp only [hb, go_sem, reduceIte, reduceCtorEq, Nat.reduceAdd, Nat.reduceBEq, Int.reduceLT, Int.reduceLE, Int.reduceGT, Int.reduceGE, Int.reduceBEq, Int.reduceBNe, Nat.reduceEqDiff, Nat.reduceLeDiff, Nat.reduceLT]) | (refine awp_part rfl (fun hb => ?_) (fun hb => ?_) <;> simp only [hb, go_sem, reduceIte, reduceCtorEq, Nat.reduceAdd, Nat.reduceBEq, Int.reduceLT, Int.reduceLE, Int.reduceGT, Int.reduceGE, Int.reduceBEq, Int.reduceBNe, Nat.reduceEqDiff, Nat.reduceLeDiff, Nat.reduceLT]) | (refine wop_pick_part rfl (fun hb => ?_) (fun hb => ?_) <;> simp only [hb, go_sem, reduceIte, reduceCtorEq, Nat.reduceAdd, Nat.reduceBEq, Int.reduceLT, Int.reduceLE, Int.reduceGT, Int.reduceGE, Int.reduceBEq, Int.reduceBNe, Nat.reduceEqDiff, Nat.reduceLeDiff, Nat.reduceLT]))
  all_goals simp_all

theorem law_FnExactIsTiming (σ : Heap) (us : List V) (_ : AllRo σ) (h : ArgsOk σ [(.pair (.int .i64) (.pair (.int .i64) (.pair (.int .i64) (.unit))), true)] us) : s_laws_FnExactIsTiming us σ fun r _ => r = .bool true := by
  obtain ⟨u, rfl, hu⟩ := args1 h
  obtain ⟨cs, rfl, ⟨xs, ys, rfl, ⟨a, rfl, _⟩, xs', ys', rfl, ⟨b, rfl, _⟩, xs'', ys'', rfl, ⟨c, rfl, _⟩, rfl⟩, _⟩ := hu
  exact p_FnExactIsTiming a b c σ
end Go.Ag
