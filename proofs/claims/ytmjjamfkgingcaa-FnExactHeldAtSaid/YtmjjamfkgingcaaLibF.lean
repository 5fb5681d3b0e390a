/-
  Part 6 of what the law FnExactHeldAt needs: an abstract semantics proved sound, the program's functions in its form, plain Lean about them. No conditions.
-/
import Derived.Test.YtmjjamfkgingcaaLibE
namespace Go.Ag
set_option linter.unusedSimpArgs false
set_option linter.unusedVariables false
section
set_option maxRecDepth 100000
theorem ve_laws_szStepS (x : (List (Int × Int × Int)) × Int) : v_laws_szStepS x = (bSel (iLt (iSub Go.IntKind.i64 x.2 (lLen x.1)) 0) (-1) (iSub Go.IntKind.i64 x.2 (lLen x.1))) := by kernel_rfl
theorem oe_laws_szStepS (x : (List (Int × Int × Int)) × Int) : ok_laws_szStepS x = True := by kernel_rfl
theorem ve_laws_szStepSS (x : (List (List (Int × Int × Int))) × Int) : v_laws_szStepSS x = (bSel (iLt (iSub Go.IntKind.i64 x.2 (lLen x.1)) 0) (-1) (bSel (iLt (loopV (fun (x0 : (Int × Int)) => (bAnd (iLt x0.2 (lLen x.1)) (bNot (iLt (v_laws_szStepS ((lGet x.1 (iNat x0.2) []), x0.1)) 0)))) (fun (x0 : (Int × Int)) => ((v_laws_szStepS ((lGet x.1 (iNat x0.2) []), x0.1)), (iAdd Go.IntKind.i64 x0.2 1))) ((iSub Go.IntKind.i64 x.2 (lLen x.1)), 0)).2 (lLen x.1)) (-1) (loopV (fun (x0 : (Int × Int)) => (bAnd (iLt x0.2 (lLen x.1)) (bNot (iLt (v_laws_szStepS ((lGet x.1 (iNat x0.2) []), x0.1)) 0)))) (fun (x0 : (Int × Int)) => ((v_laws_szStepS ((lGet x.1 (iNat x0.2) []), x0.1)), (iAdd Go.IntKind.i64 x0.2 1))) ((iSub Go.IntKind.i64 x.2 (lLen x.1)), 0)).1)) := by kernel_rfl
theorem oe_laws_szStepSS (x : (List (List (Int × Int × Int))) × Int) : ok_laws_szStepSS x = (((iLt (iSub Go.IntKind.i64 x.2 (lLen x.1)) 0) = true → True) ∧ ((iLt (iSub Go.IntKind.i64 x.2 (lLen x.1)) 0) = false → (LoopOk (fun (x0 : (Int × Int)) => (bAnd (iLt x0.2 (lLen x.1)) (bNot (iLt (v_laws_szStepS ((lGet x.1 (iNat x0.2) []), x0.1)) 0)))) (fun (x0 : (Int × Int)) => ((v_laws_szStepS ((lGet x.1 (iNat x0.2) []), x0.1)), (iAdd Go.IntKind.i64 x0.2 1))) (fun (x0 : (Int × Int)) => (((iLt x0.2 (lLen x.1)) = true → ((((0 : Int) ≤ x0.2) ∧ (x0.2 < (((List.length x.1) : Int)))) ∧ (((iNat x0.2) < (List.length x.1)) ∧ (ok_laws_szStepS ((lGet x.1 (iNat x0.2) []), x0.1))))) ∧ ((iLt x0.2 (lLen x.1)) = false → True))) ((iSub Go.IntKind.i64 x.2 (lLen x.1)), 0)))) := by kernel_rfl
theorem ve_laws_szEngine (x : (Int × (List (List (Int × Int × Int × Int))) × (List (List (Int × Int × Int))) × Int × (List (Int × Int × Int × Int × Int)) × Int × Bool) × Int) : v_laws_szEngine x = (bSel (iLt (v_laws_szKeymap ((x.1.1, x.1.2.1), x.2)) 0) (-1) (bSel (iLt (v_laws_szStepSS (x.1.2.2.1, (v_laws_szKeymap ((x.1.1, x.1.2.1), x.2)))) 0) (-1) (bSel (iLt (v_laws_szHeldS (x.1.2.2.2.2.1, (v_laws_szStepSS (x.1.2.2.1, (v_laws_szKeymap ((x.1.1, x.1.2.1), x.2)))))) 0) (-1) (v_laws_szHeldS (x.1.2.2.2.2.1, (v_laws_szStepSS (x.1.2.2.1, (v_laws_szKeymap ((x.1.1, x.1.2.1), x.2))))))))) := by kernel_rfl
theorem oe_laws_szEngine (x : (Int × (List (List (Int × Int × Int × Int))) × (List (List (Int × Int × Int))) × Int × (List (Int × Int × Int × Int × Int)) × Int × Bool) × Int) : ok_laws_szEngine x = ((ok_laws_szKeymap ((x.1.1, x.1.2.1), x.2)) ∧ (((iLt (v_laws_szKeymap ((x.1.1, x.1.2.1), x.2)) 0) = true → True) ∧ ((iLt (v_laws_szKeymap ((x.1.1, x.1.2.1), x.2)) 0) = false → ((ok_laws_szStepSS (x.1.2.2.1, (v_laws_szKeymap ((x.1.1, x.1.2.1), x.2)))) ∧ (((iLt (v_laws_szStepSS (x.1.2.2.1, (v_laws_szKeymap ((x.1.1, x.1.2.1), x.2)))) 0) = true → True) ∧ ((iLt (v_laws_szStepSS (x.1.2.2.1, (v_laws_szKeymap ((x.1.1, x.1.2.1), x.2)))) 0) = false → (ok_laws_szHeldS (x.1.2.2.2.2.1, (v_laws_szStepSS (x.1.2.2.1, (v_laws_szKeymap ((x.1.1, x.1.2.1), x.2)))))))))))) := by kernel_rfl
theorem ve_laws_toStep (x : Int × Int × Int) : v_laws_toStep x = (x.1, x.2.1, x.2.2) := by kernel_rfl
theorem oe_laws_toStep (x : Int × Int × Int) : ok_laws_toStep x = True := by kernel_rfl
theorem ve_laws_toStepS (x : List (Int × Int × Int)) : v_laws_toStepS x = (loopV (fun (x0 : ((List (Int × (Int × Int))) × Int)) => (iLt x0.2 (lLen x))) (fun (x0 : ((List (Int × (Int × Int))) × Int)) => ((lSet x0.1 (iNat x0.2) ((v_laws_toStep ((lGet x (iNat x0.2) (0, 0, 0)).1, (lGet x (iNat x0.2) (0, 0, 0)).2.1, (lGet x (iNat x0.2) (0, 0, 0)).2.2)).1, (v_laws_toStep ((lGet x (iNat x0.2) (0, 0, 0)).1, (lGet x (iNat x0.2) (0, 0, 0)).2.1, (lGet x (iNat x0.2) (0, 0, 0)).2.2)).2.1, (v_laws_toStep ((lGet x (iNat x0.2) (0, 0, 0)).1, (lGet x (iNat x0.2) (0, 0, 0)).2.1, (lGet x (iNat x0.2) (0, 0, 0)).2.2)).2.2)), (iAdd Go.IntKind.i64 x0.2 1))) ((lRep (lLen x) (0, 0, 0)), 0)).1 := by kernel_rfl
theorem oe_laws_toStepS (x : List (Int × Int × Int)) : ok_laws_toStepS x = ((((0 : Int) ≤ (lLen x)) ∧ (roomy ((Int.toNat (lLen x)) * 3))) ∧ (LoopOk (fun (x0 : ((List (Int × (Int × Int))) × Int)) => (iLt x0.2 (lLen x))) (fun (x0 : ((List (Int × (Int × Int))) × Int)) => ((lSet x0.1 (iNat x0.2) ((v_laws_toStep ((lGet x (iNat x0.2) (0, 0, 0)).1, (lGet x (iNat x0.2) (0, 0, 0)).2.1, (lGet x (iNat x0.2) (0, 0, 0)).2.2)).1, (v_laws_toStep ((lGet x (iNat x0.2) (0, 0, 0)).1, (lGet x (iNat x0.2) (0, 0, 0)).2.1, (lGet x (iNat x0.2) (0, 0, 0)).2.2)).2.1, (v_laws_toStep ((lGet x (iNat x0.2) (0, 0, 0)).1, (lGet x (iNat x0.2) (0, 0, 0)).2.1, (lGet x (iNat x0.2) (0, 0, 0)).2.2)).2.2)), (iAdd Go.IntKind.i64 x0.2 1))) (fun (x0 : ((List (Int × (Int × Int))) × Int)) => (((iLt x0.2 (lLen x)) = true → ((((0 : Int) ≤ x0.2) ∧ (x0.2 < (((List.length x) : Int)))) ∧ (((iNat x0.2) < (List.length x)) ∧ ((ok_laws_toStep ((lGet x (iNat x0.2) (0, 0, 0)).1, (lGet x (iNat x0.2) (0, 0, 0)).2.1, (lGet x (iNat x0.2) (0, 0, 0)).2.2)) ∧ ((((0 : Int) ≤ x0.2) ∧ (x0.2 < (((List.length x0.1) : Int)))) ∧ ((iNat x0.2) < (List.length x0.1))))))) ∧ ((iLt x0.2 (lLen x)) = false → True))) ((lRep (lLen x) (0, 0, 0)), 0))) := by kernel_rfl
theorem ve_laws_toStepSS (x : List (List (Int × Int × Int))) : v_laws_toStepSS x = (loopV (fun (x0 : ((List (List (Int × (Int × Int)))) × Int)) => (iLt x0.2 (lLen x))) (fun (x0 : ((List (List (Int × (Int × Int)))) × Int)) => ((lSet x0.1 (iNat x0.2) (v_laws_toStepS (lGet x (iNat x0.2) []))), (iAdd Go.IntKind.i64 x0.2 1))) ((lRep (lLen x) []), 0)).1 := by kernel_rfl
theorem oe_laws_toStepSS (x : List (List (Int × Int × Int))) : ok_laws_toStepSS x = ((((0 : Int) ≤ (lLen x)) ∧ (roomy ((Int.toNat (lLen x)) * 1))) ∧ (LoopOk (fun (x0 : ((List (List (Int × (Int × Int)))) × Int)) => (iLt x0.2 (lLen x))) (fun (x0 : ((List (List (Int × (Int × Int)))) × Int)) => ((lSet x0.1 (iNat x0.2) (v_laws_toStepS (lGet x (iNat x0.2) []))), (iAdd Go.IntKind.i64 x0.2 1))) (fun (x0 : ((List (List (Int × (Int × Int)))) × Int)) => (((iLt x0.2 (lLen x)) = true → ((((0 : Int) ≤ x0.2) ∧ (x0.2 < (((List.length x) : Int)))) ∧ (((iNat x0.2) < (List.length x)) ∧ ((ok_laws_toStepS (lGet x (iNat x0.2) [])) ∧ ((((0 : Int) ≤ x0.2) ∧ (x0.2 < (((List.length x0.1) : Int)))) ∧ ((iNat x0.2) < (List.length x0.1))))))) ∧ ((iLt x0.2 (lLen x)) = false → True))) ((lRep (lLen x) []), 0))) := by kernel_rfl
theorem ve_laws_toEngine (x : Int × (List (List (Int × Int × Int × Int))) × (List (List (Int × Int × Int))) × Int × (List (Int × Int × Int × Int × Int)) × Int × Bool) : v_laws_toEngine x = ((v_laws_toKeymap (x.1, x.2.1)).1, (v_laws_toKeymap (x.1, x.2.1)).2, (v_laws_toStepSS x.2.2.1), x.2.2.2.1, (v_laws_toHeldS x.2.2.2.2.1), x.2.2.2.2.2.1, x.2.2.2.2.2.2) := by kernel_rfl
theorem oe_laws_toEngine (x : Int × (List (List (Int × Int × Int × Int))) × (List (List (Int × Int × Int))) × Int × (List (Int × Int × Int × Int × Int)) × Int × Bool) : ok_laws_toEngine x = ((ok_laws_toKeymap (x.1, x.2.1)) ∧ ((ok_laws_toStepSS x.2.2.1) ∧ (ok_laws_toHeldS x.2.2.2.2.1))) := by kernel_rfl
theorem ve_spec_HeldAt (x : (Int × (List (List (Int × Int × Int × Int))) × (List (List (Int × Int × Int))) × Int × (List (Int × Int × Int × Int × Int)) × Int × Bool) × Int) : v_spec_HeldAt x = (bSel (iLt (loopV (fun (x0 : Int) => (bAnd (iLt x0 (lLen x.1.2.2.2.2.1)) (bNot (iEq (lGet x.1.2.2.2.2.1 (iNat x0) (0, 0, 0, 0, 0)).1 x.2)))) (fun (x0 : Int) => (iAdd Go.IntKind.i64 x0 1)) 0) (lLen x.1.2.2.2.2.1)) (loopV (fun (x0 : Int) => (bAnd (iLt x0 (lLen x.1.2.2.2.2.1)) (bNot (iEq (lGet x.1.2.2.2.2.1 (iNat x0) (0, 0, 0, 0, 0)).1 x.2)))) (fun (x0 : Int) => (iAdd Go.IntKind.i64 x0 1)) 0) (-1)) := by kernel_rfl
theorem oe_spec_HeldAt (x : (Int × (List (List (Int × Int × Int × Int))) × (List (List (Int × Int × Int))) × Int × (List (Int × Int × Int × Int × Int)) × Int × Bool) × Int) : ok_spec_HeldAt x = (LoopOk (fun (x0 : Int) => (bAnd (iLt x0 (lLen x.1.2.2.2.2.1)) (bNot (iEq (lGet x.1.2.2.2.2.1 (iNat x0) (0, 0, 0, 0, 0)).1 x.2)))) (fun (x0 : Int) => (iAdd Go.IntKind.i64 x0 1)) (fun (x0 : Int) => (((iLt x0 (lLen x.1.2.2.2.2.1)) = true → ((((0 : Int) ≤ x0) ∧ (x0 < (((List.length x.1.2.2.2.2.1) : Int)))) ∧ ((iNat x0) < (List.length x.1.2.2.2.2.1)))) ∧ ((iLt x0 (lLen x.1.2.2.2.2.1)) = false → True))) 0) := by kernel_rfl
theorem ve_impl_HeldAt (x : (Int × (List (List (Int × Int × Int × Int))) × (List (List (Int × Int × Int))) × Int × (List (Int × Int × Int × Int × Int)) × Int × Bool) × Int) : v_impl_HeldAt x = (bSel (iLt (loopV (fun (x0 : Int) => (bAnd (iLt x0 (lLen x.1.2.2.2.2.1)) (bNot (iEq (lGet x.1.2.2.2.2.1 (iNat x0) (0, 0, 0, 0, 0)).1 x.2)))) (fun (x0 : Int) => (iAdd Go.IntKind.i64 x0 1)) 0) (lLen x.1.2.2.2.2.1)) (loopV (fun (x0 : Int) => (bAnd (iLt x0 (lLen x.1.2.2.2.2.1)) (bNot (iEq (lGet x.1.2.2.2.2.1 (iNat x0) (0, 0, 0, 0, 0)).1 x.2)))) (fun (x0 : Int) => (iAdd Go.IntKind.i64 x0 1)) 0) (-1)) := by kernel_rfl
theorem oe_impl_HeldAt (x : (Int × (List (List (Int × Int × Int × Int))) × (List (List (Int × Int × Int))) × Int × (List (Int × Int × Int × Int × Int)) × Int × Bool) × Int) : ok_impl_HeldAt x = (LoopOk (fun (x0 : Int) => (bAnd (iLt x0 (lLen x.1.2.2.2.2.1)) (bNot (iEq (lGet x.1.2.2.2.2.1 (iNat x0) (0, 0, 0, 0, 0)).1 x.2)))) (fun (x0 : Int) => (iAdd Go.IntKind.i64 x0 1)) (fun (x0 : Int) => (((iLt x0 (lLen x.1.2.2.2.2.1)) = true → ((((0 : Int) ≤ x0) ∧ (x0 < (((List.length x.1.2.2.2.2.1) : Int)))) ∧ ((iNat x0) < (List.length x.1.2.2.2.2.1)))) ∧ ((iLt x0 (lLen x.1.2.2.2.2.1)) = false → True))) 0) := by kernel_rfl
theorem ve_laws_eqStep (x : (Int × Int × Int) × (Int × Int × Int)) : v_laws_eqStep x = (bAnd (bNot (iNe x.1.1 x.2.1)) (bAnd (bNot (iNe x.1.2.1 x.2.2.1)) (bNot (iNe x.1.2.2 x.2.2.2)))) := by kernel_rfl
theorem oe_laws_eqStep (x : (Int × Int × Int) × (Int × Int × Int)) : ok_laws_eqStep x = True := by kernel_rfl
theorem ve_laws_eqStepS (x : (List (Int × Int × Int)) × (List (Int × Int × Int))) : v_laws_eqStepS x = (bAnd (bNot (iNe (lLen x.1) (lLen x.2))) (bNot (iLt (loopV (fun (x0 : Int) => (bAnd (iLt x0 (lLen x.1)) (bNot (bNot (v_laws_eqStep (((lGet x.1 (iNat x0) (0, 0, 0)).1, (lGet x.1 (iNat x0) (0, 0, 0)).2.1, (lGet x.1 (iNat x0) (0, 0, 0)).2.2), (lGet x.2 (iNat x0) (0, 0, 0)).1, (lGet x.2 (iNat x0) (0, 0, 0)).2.1, (lGet x.2 (iNat x0) (0, 0, 0)).2.2)))))) (fun (x0 : Int) => (iAdd Go.IntKind.i64 x0 1)) 0) (lLen x.1)))) := by kernel_rfl
theorem oe_laws_eqStepS (x : (List (Int × Int × Int)) × (List (Int × Int × Int))) : ok_laws_eqStepS x = (((iNe (lLen x.1) (lLen x.2)) = true → True) ∧ ((iNe (lLen x.1) (lLen x.2)) = false → (LoopOk (fun (x0 : Int) => (bAnd (iLt x0 (lLen x.1)) (bNot (bNot (v_laws_eqStep (((lGet x.1 (iNat x0) (0, 0, 0)).1, (lGet x.1 (iNat x0) (0, 0, 0)).2.1, (lGet x.1 (iNat x0) (0, 0, 0)).2.2), (lGet x.2 (iNat x0) (0, 0, 0)).1, (lGet x.2 (iNat x0) (0, 0, 0)).2.1, (lGet x.2 (iNat x0) (0, 0, 0)).2.2)))))) (fun (x0 : Int) => (iAdd Go.IntKind.i64 x0 1)) (fun (x0 : Int) => (((iLt x0 (lLen x.1)) = true → ((((0 : Int) ≤ x0) ∧ (x0 < (((List.length x.1) : Int)))) ∧ (((iNat x0) < (List.length x.1)) ∧ ((((0 : Int) ≤ x0) ∧ (x0 < (((List.length x.2) : Int)))) ∧ (((iNat x0) < (List.length x.2)) ∧ (ok_laws_eqStep (((lGet x.1 (iNat x0) (0, 0, 0)).1, (lGet x.1 (iNat x0) (0, 0, 0)).2.1, (lGet x.1 (iNat x0) (0, 0, 0)).2.2), (lGet x.2 (iNat x0) (0, 0, 0)).1, (lGet x.2 (iNat x0) (0, 0, 0)).2.1, (lGet x.2 (iNat x0) (0, 0, 0)).2.2))))))) ∧ ((iLt x0 (lLen x.1)) = false → True))) 0))) := by kernel_rfl
theorem ve_laws_eqStepSS (x : (List (List (Int × Int × Int))) × (List (List (Int × Int × Int)))) : v_laws_eqStepSS x = (bAnd (bNot (iNe (lLen x.1) (lLen x.2))) (bNot (iLt (loopV (fun (x0 : Int) => (bAnd (iLt x0 (lLen x.1)) (bNot (bNot (v_laws_eqStepS ((lGet x.1 (iNat x0) []), (lGet x.2 (iNat x0) []))))))) (fun (x0 : Int) => (iAdd Go.IntKind.i64 x0 1)) 0) (lLen x.1)))) := by kernel_rfl
theorem oe_laws_eqStepSS (x : (List (List (Int × Int × Int))) × (List (List (Int × Int × Int)))) : ok_laws_eqStepSS x = (((iNe (lLen x.1) (lLen x.2)) = true → True) ∧ ((iNe (lLen x.1) (lLen x.2)) = false → (LoopOk (fun (x0 : Int) => (bAnd (iLt x0 (lLen x.1)) (bNot (bNot (v_laws_eqStepS ((lGet x.1 (iNat x0) []), (lGet x.2 (iNat x0) []))))))) (fun (x0 : Int) => (iAdd Go.IntKind.i64 x0 1)) (fun (x0 : Int) => (((iLt x0 (lLen x.1)) = true → ((((0 : Int) ≤ x0) ∧ (x0 < (((List.length x.1) : Int)))) ∧ (((iNat x0) < (List.length x.1)) ∧ ((((0 : Int) ≤ x0) ∧ (x0 < (((List.length x.2) : Int)))) ∧ (((iNat x0) < (List.length x.2)) ∧ (ok_laws_eqStepS ((lGet x.1 (iNat x0) []), (lGet x.2 (iNat x0) [])))))))) ∧ ((iLt x0 (lLen x.1)) = false → True))) 0))) := by kernel_rfl
theorem ve_laws_eqEngine (x : (Int × (List (List (Int × Int × Int × Int))) × (List (List (Int × Int × Int))) × Int × (List (Int × Int × Int × Int × Int)) × Int × Bool) × (Int × (List (List (Int × Int × Int × Int))) × (List (List (Int × Int × Int))) × Int × (List (Int × Int × Int × Int × Int)) × Int × Bool)) : v_laws_eqEngine x = (bAnd (bNot (bNot (v_laws_eqKeymap ((x.1.1, x.1.2.1), x.2.1, x.2.2.1)))) (bAnd (bNot (bNot (v_laws_eqStepSS (x.1.2.2.1, x.2.2.2.1)))) (bAnd (bNot (iNe x.1.2.2.2.1 x.2.2.2.2.1)) (bAnd (bNot (bNot (v_laws_eqHeldS (x.1.2.2.2.2.1, x.2.2.2.2.2.1)))) (bAnd (bNot (iNe x.1.2.2.2.2.2.1 x.2.2.2.2.2.2.1)) (bNot (bNot (bIff x.1.2.2.2.2.2.2 x.2.2.2.2.2.2.2)))))))) := by kernel_rfl
theorem oe_laws_eqEngine (x : (Int × (List (List (Int × Int × Int × Int))) × (List (List (Int × Int × Int))) × Int × (List (Int × Int × Int × Int × Int)) × Int × Bool) × (Int × (List (List (Int × Int × Int × Int))) × (List (List (Int × Int × Int))) × Int × (List (Int × Int × Int × Int × Int)) × Int × Bool)) : ok_laws_eqEngine x = ((ok_laws_eqKeymap ((x.1.1, x.1.2.1), x.2.1, x.2.2.1)) ∧ (((bNot (v_laws_eqKeymap ((x.1.1, x.1.2.1), x.2.1, x.2.2.1))) = true → True) ∧ ((bNot (v_laws_eqKeymap ((x.1.1, x.1.2.1), x.2.1, x.2.2.1))) = false → ((ok_laws_eqStepSS (x.1.2.2.1, x.2.2.2.1)) ∧ (((bNot (v_laws_eqStepSS (x.1.2.2.1, x.2.2.2.1))) = true → True) ∧ ((bNot (v_laws_eqStepSS (x.1.2.2.1, x.2.2.2.1))) = false → (((iNe x.1.2.2.2.1 x.2.2.2.2.1) = true → True) ∧ ((iNe x.1.2.2.2.1 x.2.2.2.2.1) = false → (ok_laws_eqHeldS (x.1.2.2.2.2.1, x.2.2.2.2.2.1)))))))))) := by kernel_rfl
theorem ve_laws_FnExactHeldAt (x : (Int × (List (List (Int × Int × Int × Int))) × (List (List (Int × Int × Int))) × Int × (List (Int × Int × Int × Int × Int)) × Int × Bool) × Int) : v_laws_FnExactHeldAt x = (bOr (iLt (v_laws_szEngine ((x.1.1, x.1.2.1, x.1.2.2.1, x.1.2.2.2.1, x.1.2.2.2.2.1, x.1.2.2.2.2.2.1, x.1.2.2.2.2.2.2), 1048576)) 0) (bAnd (bNot (iNe (v_impl_HeldAt (((v_laws_toEngine (x.1.1, x.1.2.1, x.1.2.2.1, x.1.2.2.2.1, x.1.2.2.2.2.1, x.1.2.2.2.2.2.1, x.1.2.2.2.2.2.2)).1, (v_laws_toEngine (x.1.1, x.1.2.1, x.1.2.2.1, x.1.2.2.2.1, x.1.2.2.2.2.1, x.1.2.2.2.2.2.1, x.1.2.2.2.2.2.2)).2.1, (v_laws_toEngine (x.1.1, x.1.2.1, x.1.2.2.1, x.1.2.2.2.1, x.1.2.2.2.2.1, x.1.2.2.2.2.2.1, x.1.2.2.2.2.2.2)).2.2.1, (v_laws_toEngine (x.1.1, x.1.2.1, x.1.2.2.1, x.1.2.2.2.1, x.1.2.2.2.2.1, x.1.2.2.2.2.2.1, x.1.2.2.2.2.2.2)).2.2.2.1, (v_laws_toEngine (x.1.1, x.1.2.1, x.1.2.2.1, x.1.2.2.2.1, x.1.2.2.2.2.1, x.1.2.2.2.2.2.1, x.1.2.2.2.2.2.2)).2.2.2.2.1, (v_laws_toEngine (x.1.1, x.1.2.1, x.1.2.2.1, x.1.2.2.2.1, x.1.2.2.2.2.1, x.1.2.2.2.2.2.1, x.1.2.2.2.2.2.2)).2.2.2.2.2.1, (v_laws_toEngine (x.1.1, x.1.2.1, x.1.2.2.1, x.1.2.2.2.1, x.1.2.2.2.2.1, x.1.2.2.2.2.2.1, x.1.2.2.2.2.2.2)).2.2.2.2.2.2), x.2)) (v_spec_HeldAt (((v_laws_toEngine (x.1.1, x.1.2.1, x.1.2.2.1, x.1.2.2.2.1, x.1.2.2.2.2.1, x.1.2.2.2.2.2.1, x.1.2.2.2.2.2.2)).1, (v_laws_toEngine (x.1.1, x.1.2.1, x.1.2.2.1, x.1.2.2.2.1, x.1.2.2.2.2.1, x.1.2.2.2.2.2.1, x.1.2.2.2.2.2.2)).2.1, (v_laws_toEngine (x.1.1, x.1.2.1, x.1.2.2.1, x.1.2.2.2.1, x.1.2.2.2.2.1, x.1.2.2.2.2.2.1, x.1.2.2.2.2.2.2)).2.2.1, (v_laws_toEngine (x.1.1, x.1.2.1, x.1.2.2.1, x.1.2.2.2.1, x.1.2.2.2.2.1, x.1.2.2.2.2.2.1, x.1.2.2.2.2.2.2)).2.2.2.1, (v_laws_toEngine (x.1.1, x.1.2.1, x.1.2.2.1, x.1.2.2.2.1, x.1.2.2.2.2.1, x.1.2.2.2.2.2.1, x.1.2.2.2.2.2.2)).2.2.2.2.1, (v_laws_toEngine (x.1.1, x.1.2.1, x.1.2.2.1, x.1.2.2.2.1, x.1.2.2.2.2.1, x.1.2.2.2.2.2.1, x.1.2.2.2.2.2.2)).2.2.2.2.2.1, (v_laws_toEngine (x.1.1, x.1.2.1, x.1.2.2.1, x.1.2.2.2.1, x.1.2.2.2.2.1, x.1.2.2.2.2.2.1, x.1.2.2.2.2.2.2)).2.2.2.2.2.2), x.2)))) (bNot (bNot (v_laws_eqEngine (((v_laws_toEngine (x.1.1, x.1.2.1, x.1.2.2.1, x.1.2.2.2.1, x.1.2.2.2.2.1, x.1.2.2.2.2.2.1, x.1.2.2.2.2.2.2)).1, (v_laws_toEngine (x.1.1, x.1.2.1, x.1.2.2.1, x.1.2.2.2.1, x.1.2.2.2.2.1, x.1.2.2.2.2.2.1, x.1.2.2.2.2.2.2)).2.1, (v_laws_toEngine (x.1.1, x.1.2.1, x.1.2.2.1, x.1.2.2.2.1, x.1.2.2.2.2.1, x.1.2.2.2.2.2.1, x.1.2.2.2.2.2.2)).2.2.1, (v_laws_toEngine (x.1.1, x.1.2.1, x.1.2.2.1, x.1.2.2.2.1, x.1.2.2.2.2.1, x.1.2.2.2.2.2.1, x.1.2.2.2.2.2.2)).2.2.2.1, (v_laws_toEngine (x.1.1, x.1.2.1, x.1.2.2.1, x.1.2.2.2.1, x.1.2.2.2.2.1, x.1.2.2.2.2.2.1, x.1.2.2.2.2.2.2)).2.2.2.2.1, (v_laws_toEngine (x.1.1, x.1.2.1, x.1.2.2.1, x.1.2.2.2.1, x.1.2.2.2.2.1, x.1.2.2.2.2.2.1, x.1.2.2.2.2.2.2)).2.2.2.2.2.1, (v_laws_toEngine (x.1.1, x.1.2.1, x.1.2.2.1, x.1.2.2.2.1, x.1.2.2.2.2.1, x.1.2.2.2.2.2.1, x.1.2.2.2.2.2.2)).2.2.2.2.2.2), (v_laws_toEngine (x.1.1, x.1.2.1, x.1.2.2.1, x.1.2.2.2.1, x.1.2.2.2.2.1, x.1.2.2.2.2.2.1, x.1.2.2.2.2.2.2)).1, (v_laws_toEngine (x.1.1, x.1.2.1, x.1.2.2.1, x.1.2.2.2.1, x.1.2.2.2.2.1, x.1.2.2.2.2.2.1, x.1.2.2.2.2.2.2)).2.1, (v_laws_toEngine (x.1.1, x.1.2.1, x.1.2.2.1, x.1.2.2.2.1, x.1.2.2.2.2.1, x.1.2.2.2.2.2.1, x.1.2.2.2.2.2.2)).2.2.1, (v_laws_toEngine (x.1.1, x.1.2.1, x.1.2.2.1, x.1.2.2.2.1, x.1.2.2.2.2.1, x.1.2.2.2.2.2.1, x.1.2.2.2.2.2.2)).2.2.2.1, (v_laws_toEngine (x.1.1, x.1.2.1, x.1.2.2.1, x.1.2.2.2.1, x.1.2.2.2.2.1, x.1.2.2.2.2.2.1, x.1.2.2.2.2.2.2)).2.2.2.2.1, (v_laws_toEngine (x.1.1, x.1.2.1, x.1.2.2.1, x.1.2.2.2.1, x.1.2.2.2.2.1, x.1.2.2.2.2.2.1, x.1.2.2.2.2.2.2)).2.2.2.2.2.1, (v_laws_toEngine (x.1.1, x.1.2.1, x.1.2.2.1, x.1.2.2.2.1, x.1.2.2.2.2.1, x.1.2.2.2.2.2.1, x.1.2.2.2.2.2.2)).2.2.2.2.2.2)))))) := by kernel_rfl
theorem oe_laws_FnExactHeldAt (x : (Int × (List (List (Int × Int × Int × Int))) × (List (List (Int × Int × Int))) × Int × (List (Int × Int × Int × Int × Int)) × Int × Bool) × Int) : ok_laws_FnExactHeldAt x = ((ok_laws_szEngine ((x.1.1, x.1.2.1, x.1.2.2.1, x.1.2.2.2.1, x.1.2.2.2.2.1, x.1.2.2.2.2.2.1, x.1.2.2.2.2.2.2), 1048576)) ∧ (((iLt (v_laws_szEngine ((x.1.1, x.1.2.1, x.1.2.2.1, x.1.2.2.2.1, x.1.2.2.2.2.1, x.1.2.2.2.2.2.1, x.1.2.2.2.2.2.2), 1048576)) 0) = true → True) ∧ ((iLt (v_laws_szEngine ((x.1.1, x.1.2.1, x.1.2.2.1, x.1.2.2.2.1, x.1.2.2.2.2.1, x.1.2.2.2.2.2.1, x.1.2.2.2.2.2.2), 1048576)) 0) = false → ((ok_laws_toEngine (x.1.1, x.1.2.1, x.1.2.2.1, x.1.2.2.2.1, x.1.2.2.2.2.1, x.1.2.2.2.2.2.1, x.1.2.2.2.2.2.2)) ∧ ((ok_spec_HeldAt (((v_laws_toEngine (x.1.1, x.1.2.1, x.1.2.2.1, x.1.2.2.2.1, x.1.2.2.2.2.1, x.1.2.2.2.2.2.1, x.1.2.2.2.2.2.2)).1, (v_laws_toEngine (x.1.1, x.1.2.1, x.1.2.2.1, x.1.2.2.2.1, x.1.2.2.2.2.1, x.1.2.2.2.2.2.1, x.1.2.2.2.2.2.2)).2.1, (v_laws_toEngine (x.1.1, x.1.2.1, x.1.2.2.1, x.1.2.2.2.1, x.1.2.2.2.2.1, x.1.2.2.2.2.2.1, x.1.2.2.2.2.2.2)).2.2.1, (v_laws_toEngine (x.1.1, x.1.2.1, x.1.2.2.1, x.1.2.2.2.1, x.1.2.2.2.2.1, x.1.2.2.2.2.2.1, x.1.2.2.2.2.2.2)).2.2.2.1, (v_laws_toEngine (x.1.1, x.1.2.1, x.1.2.2.1, x.1.2.2.2.1, x.1.2.2.2.2.1, x.1.2.2.2.2.2.1, x.1.2.2.2.2.2.2)).2.2.2.2.1, (v_laws_toEngine (x.1.1, x.1.2.1, x.1.2.2.1, x.1.2.2.2.1, x.1.2.2.2.2.1, x.1.2.2.2.2.2.1, x.1.2.2.2.2.2.2)).2.2.2.2.2.1, (v_laws_toEngine (x.1.1, x.1.2.1, x.1.2.2.1, x.1.2.2.2.1, x.1.2.2.2.2.1, x.1.2.2.2.2.2.1, x.1.2.2.2.2.2.2)).2.2.2.2.2.2), x.2)) ∧ ((ok_laws_toEngine (x.1.1, x.1.2.1, x.1.2.2.1, x.1.2.2.2.1, x.1.2.2.2.2.1, x.1.2.2.2.2.2.1, x.1.2.2.2.2.2.2)) ∧ ((ok_impl_HeldAt (((v_laws_toEngine (x.1.1, x.1.2.1, x.1.2.2.1, x.1.2.2.2.1, x.1.2.2.2.2.1, x.1.2.2.2.2.2.1, x.1.2.2.2.2.2.2)).1, (v_laws_toEngine (x.1.1, x.1.2.1, x.1.2.2.1, x.1.2.2.2.1, x.1.2.2.2.2.1, x.1.2.2.2.2.2.1, x.1.2.2.2.2.2.2)).2.1, (v_laws_toEngine (x.1.1, x.1.2.1, x.1.2.2.1, x.1.2.2.2.1, x.1.2.2.2.2.1, x.1.2.2.2.2.2.1, x.1.2.2.2.2.2.2)).2.2.1, (v_laws_toEngine (x.1.1, x.1.2.1, x.1.2.2.1, x.1.2.2.2.1, x.1.2.2.2.2.1, x.1.2.2.2.2.2.1, x.1.2.2.2.2.2.2)).2.2.2.1, (v_laws_toEngine (x.1.1, x.1.2.1, x.1.2.2.1, x.1.2.2.2.1, x.1.2.2.2.2.1, x.1.2.2.2.2.2.1, x.1.2.2.2.2.2.2)).2.2.2.2.1, (v_laws_toEngine (x.1.1, x.1.2.1, x.1.2.2.1, x.1.2.2.2.1, x.1.2.2.2.2.1, x.1.2.2.2.2.2.1, x.1.2.2.2.2.2.2)).2.2.2.2.2.1, (v_laws_toEngine (x.1.1, x.1.2.1, x.1.2.2.1, x.1.2.2.2.1, x.1.2.2.2.2.1, x.1.2.2.2.2.2.1, x.1.2.2.2.2.2.2)).2.2.2.2.2.2), x.2)) ∧ (((iNe (v_impl_HeldAt (((v_laws_toEngine (x.1.1, x.1.2.1, x.1.2.2.1, x.1.2.2.2.1, x.1.2.2.2.2.1, x.1.2.2.2.2.2.1, x.1.2.2.2.2.2.2)).1, (v_laws_toEngine (x.1.1, x.1.2.1, x.1.2.2.1, x.1.2.2.2.1, x.1.2.2.2.2.1, x.1.2.2.2.2.2.1, x.1.2.2.2.2.2.2)).2.1, (v_laws_toEngine (x.1.1, x.1.2.1, x.1.2.2.1, x.1.2.2.2.1, x.1.2.2.2.2.1, x.1.2.2.2.2.2.1, x.1.2.2.2.2.2.2)).2.2.1, (v_laws_toEngine (x.1.1, x.1.2.1, x.1.2.2.1, x.1.2.2.2.1, x.1.2.2.2.2.1, x.1.2.2.2.2.2.1, x.1.2.2.2.2.2.2)).2.2.2.1, (v_laws_toEngine (x.1.1, x.1.2.1, x.1.2.2.1, x.1.2.2.2.1, x.1.2.2.2.2.1, x.1.2.2.2.2.2.1, x.1.2.2.2.2.2.2)).2.2.2.2.1, (v_laws_toEngine (x.1.1, x.1.2.1, x.1.2.2.1, x.1.2.2.2.1, x.1.2.2.2.2.1, x.1.2.2.2.2.2.1, x.1.2.2.2.2.2.2)).2.2.2.2.2.1, (v_laws_toEngine (x.1.1, x.1.2.1, x.1.2.2.1, x.1.2.2.2.1, x.1.2.2.2.2.1, x.1.2.2.2.2.2.1, x.1.2.2.2.2.2.2)).2.2.2.2.2.2), x.2)) (v_spec_HeldAt (((v_laws_toEngine (x.1.1, x.1.2.1, x.1.2.2.1, x.1.2.2.2.1, x.1.2.2.2.2.1, x.1.2.2.2.2.2.1, x.1.2.2.2.2.2.2)).1, (v_laws_toEngine (x.1.1, x.1.2.1, x.1.2.2.1, x.1.2.2.2.1, x.1.2.2.2.2.1, x.1.2.2.2.2.2.1, x.1.2.2.2.2.2.2)).2.1, (v_laws_toEngine (x.1.1, x.1.2.1, x.1.2.2.1, x.1.2.2.2.1, x.1.2.2.2.2.1, x.1.2.2.2.2.2.1, x.1.2.2.2.2.2.2)).2.2.1, (v_laws_toEngine (x.1.1, x.1.2.1, x.1.2.2.1, x.1.2.2.2.1, x.1.2.2.2.2.1, x.1.2.2.2.2.2.1, x.1.2.2.2.2.2.2)).2.2.2.1, (v_laws_toEngine (x.1.1, x.1.2.1, x.1.2.2.1, x.1.2.2.2.1, x.1.2.2.2.2.1, x.1.2.2.2.2.2.1, x.1.2.2.2.2.2.2)).2.2.2.2.1, (v_laws_toEngine (x.1.1, x.1.2.1, x.1.2.2.1, x.1.2.2.2.1, x.1.2.2.2.2.1, x.1.2.2.2.2.2.1, x.1.2.2.2.2.2.2)).2.2.2.2.2.1, (v_laws_toEngine (x.1.1, x.1.2.1, x.1.2.2.1, x.1.2.2.2.1, x.1.2.2.2.2.1, x.1.2.2.2.2.2.1, x.1.2.2.2.2.2.2)).2.2.2.2.2.2), x.2))) = true → True) ∧ ((iNe (v_impl_HeldAt (((v_laws_toEngine (x.1.1, x.1.2.1, x.1.2.2.1, x.1.2.2.2.1, x.1.2.2.2.2.1, x.1.2.2.2.2.2.1, x.1.2.2.2.2.2.2)).1, (v_laws_toEngine (x.1.1, x.1.2.1, x.1.2.2.1, x.1.2.2.2.1, x.1.2.2.2.2.1, x.1.2.2.2.2.2.1, x.1.2.2.2.2.2.2)).2.1, (v_laws_toEngine (x.1.1, x.1.2.1, x.1.2.2.1, x.1.2.2.2.1, x.1.2.2.2.2.1, x.1.2.2.2.2.2.1, x.1.2.2.2.2.2.2)).2.2.1, (v_laws_toEngine (x.1.1, x.1.2.1, x.1.2.2.1, x.1.2.2.2.1, x.1.2.2.2.2.1, x.1.2.2.2.2.2.1, x.1.2.2.2.2.2.2)).2.2.2.1, (v_laws_toEngine (x.1.1, x.1.2.1, x.1.2.2.1, x.1.2.2.2.1, x.1.2.2.2.2.1, x.1.2.2.2.2.2.1, x.1.2.2.2.2.2.2)).2.2.2.2.1, (v_laws_toEngine (x.1.1, x.1.2.1, x.1.2.2.1, x.1.2.2.2.1, x.1.2.2.2.2.1, x.1.2.2.2.2.2.1, x.1.2.2.2.2.2.2)).2.2.2.2.2.1, (v_laws_toEngine (x.1.1, x.1.2.1, x.1.2.2.1, x.1.2.2.2.1, x.1.2.2.2.2.1, x.1.2.2.2.2.2.1, x.1.2.2.2.2.2.2)).2.2.2.2.2.2), x.2)) (v_spec_HeldAt (((v_laws_toEngine (x.1.1, x.1.2.1, x.1.2.2.1, x.1.2.2.2.1, x.1.2.2.2.2.1, x.1.2.2.2.2.2.1, x.1.2.2.2.2.2.2)).1, (v_laws_toEngine (x.1.1, x.1.2.1, x.1.2.2.1, x.1.2.2.2.1, x.1.2.2.2.2.1, x.1.2.2.2.2.2.1, x.1.2.2.2.2.2.2)).2.1, (v_laws_toEngine (x.1.1, x.1.2.1, x.1.2.2.1, x.1.2.2.2.1, x.1.2.2.2.2.1, x.1.2.2.2.2.2.1, x.1.2.2.2.2.2.2)).2.2.1, (v_laws_toEngine (x.1.1, x.1.2.1, x.1.2.2.1, x.1.2.2.2.1, x.1.2.2.2.2.1, x.1.2.2.2.2.2.1, x.1.2.2.2.2.2.2)).2.2.2.1, (v_laws_toEngine (x.1.1, x.1.2.1, x.1.2.2.1, x.1.2.2.2.1, x.1.2.2.2.2.1, x.1.2.2.2.2.2.1, x.1.2.2.2.2.2.2)).2.2.2.2.1, (v_laws_toEngine (x.1.1, x.1.2.1, x.1.2.2.1, x.1.2.2.2.1, x.1.2.2.2.2.1, x.1.2.2.2.2.2.1, x.1.2.2.2.2.2.2)).2.2.2.2.2.1, (v_laws_toEngine (x.1.1, x.1.2.1, x.1.2.2.1, x.1.2.2.2.1, x.1.2.2.2.2.1, x.1.2.2.2.2.2.1, x.1.2.2.2.2.2.2)).2.2.2.2.2.2), x.2))) = false → ((ok_laws_toEngine (x.1.1, x.1.2.1, x.1.2.2.1, x.1.2.2.2.1, x.1.2.2.2.2.1, x.1.2.2.2.2.2.1, x.1.2.2.2.2.2.2)) ∧ (ok_laws_eqEngine (((v_laws_toEngine (x.1.1, x.1.2.1, x.1.2.2.1, x.1.2.2.2.1, x.1.2.2.2.2.1, x.1.2.2.2.2.2.1, x.1.2.2.2.2.2.2)).1, (v_laws_toEngine (x.1.1, x.1.2.1, x.1.2.2.1, x.1.2.2.2.1, x.1.2.2.2.2.1, x.1.2.2.2.2.2.1, x.1.2.2.2.2.2.2)).2.1, (v_laws_toEngine (x.1.1, x.1.2.1, x.1.2.2.1, x.1.2.2.2.1, x.1.2.2.2.2.1, x.1.2.2.2.2.2.1, x.1.2.2.2.2.2.2)).2.2.1, (v_laws_toEngine (x.1.1, x.1.2.1, x.1.2.2.1, x.1.2.2.2.1, x.1.2.2.2.2.1, x.1.2.2.2.2.2.1, x.1.2.2.2.2.2.2)).2.2.2.1, (v_laws_toEngine (x.1.1, x.1.2.1, x.1.2.2.1, x.1.2.2.2.1, x.1.2.2.2.2.1, x.1.2.2.2.2.2.1, x.1.2.2.2.2.2.2)).2.2.2.2.1, (v_laws_toEngine (x.1.1, x.1.2.1, x.1.2.2.1, x.1.2.2.2.1, x.1.2.2.2.2.1, x.1.2.2.2.2.2.1, x.1.2.2.2.2.2.2)).2.2.2.2.2.1, (v_laws_toEngine (x.1.1, x.1.2.1, x.1.2.2.1, x.1.2.2.2.1, x.1.2.2.2.2.1, x.1.2.2.2.2.2.1, x.1.2.2.2.2.2.2)).2.2.2.2.2.2), (v_laws_toEngine (x.1.1, x.1.2.1, x.1.2.2.1, x.1.2.2.2.1, x.1.2.2.2.2.1, x.1.2.2.2.2.2.1, x.1.2.2.2.2.2.2)).1, (v_laws_toEngine (x.1.1, x.1.2.1, x.1.2.2.1, x.1.2.2.2.1, x.1.2.2.2.2.1, x.1.2.2.2.2.2.1, x.1.2.2.2.2.2.2)).2.1, (v_laws_toEngine (x.1.1, x.1.2.1, x.1.2.2.1, x.1.2.2.2.1, x.1.2.2.2.2.1, x.1.2.2.2.2.2.1, x.1.2.2.2.2.2.2)).2.2.1, (v_laws_toEngine (x.1.1, x.1.2.1, x.1.2.2.1, x.1.2.2.2.1, x.1.2.2.2.2.1, x.1.2.2.2.2.2.1, x.1.2.2.2.2.2.2)).2.2.2.1, (v_laws_toEngine (x.1.1, x.1.2.1, x.1.2.2.1, x.1.2.2.2.1, x.1.2.2.2.2.1, x.1.2.2.2.2.2.1, x.1.2.2.2.2.2.2)).2.2.2.2.1, (v_laws_toEngine (x.1.1, x.1.2.1, x.1.2.2.1, x.1.2.2.2.1, x.1.2.2.2.2.1, x.1.2.2.2.2.2.1, x.1.2.2.2.2.2.2)).2.2.2.2.2.1, (v_laws_toEngine (x.1.1, x.1.2.1, x.1.2.2.1, x.1.2.2.2.1, x.1.2.2.2.2.1, x.1.2.2.2.2.2.1, x.1.2.2.2.2.2.2)).2.2.2.2.2.2)))))))))))) := by kernel_rfl
end
def sm_Step (_ : Int × Int × Int) : Prop := True
def wl_Step (_ : Int × Int × Int) : Prop := True
def sm_StepS (x : List (Int × Int × Int)) : Prop := x.length ≤ 1048576 ∧ ∀ a ∈ x, sm_Step a
def wl_StepS (x : List (Int × Int × Int)) : Prop := x.length ≤ 9223372036854775807 ∧ ∀ a ∈ x, wl_Step a
theorem sz_StepS (x : List (Int × Int × Int)) (hw : wl_StepS x) (l : Int) (h0 : 0 ≤ l) (h1 : l ≤ 1048576) : ok_laws_szStepS (x, l) ∧ (v_laws_szStepS (x, l) < 0 ∨ (0 ≤ v_laws_szStepS (x, l) ∧ v_laws_szStepS (x, l) ≤ l ∧ sm_StepS x)) := by
  rw [oe_laws_szStepS, ve_laws_szStepS]
  have hl : x.length ≤ 9223372036854775807 := hw.1
  have hs : iSub .i64 l (lLen x) = l - x.length := by rw [lLen_eq]; exact iSub_i64 (by unfold In64; omega)
  refine ⟨trivial, ?_⟩
  simp only [hs, iLt_eq, bSel_eq, decide_eq_true_eq]
  split
  · left; omega
  · right; exact ⟨by omega, by omega, ⟨by omega, fun a _ => by simp [sm_Step]⟩⟩
def sm_StepSS (x : List (List (Int × Int × Int))) : Prop := x.length ≤ 1048576 ∧ ∀ a ∈ x, sm_StepS a
def wl_StepSS (x : List (List (Int × Int × Int))) : Prop := x.length ≤ 9223372036854775807 ∧ ∀ a ∈ x, wl_StepS a
theorem sz_StepSS (x : List (List (Int × Int × Int))) (hw : wl_StepSS x) (l : Int) (h0 : 0 ≤ l) (h1 : l ≤ 1048576) : ok_laws_szStepSS (x, l) ∧ (v_laws_szStepSS (x, l) < 0 ∨ (0 ≤ v_laws_szStepSS (x, l) ∧ v_laws_szStepSS (x, l) ≤ l ∧ sm_StepSS x)) := by
  rw [oe_laws_szStepSS, ve_laws_szStepSS]
  obtain ⟨hl, hw2⟩ := hw
  have hs : iSub .i64 l (lLen x) = l - x.length := by rw [lLen_eq]; exact iSub_i64 (by unfold In64; omega)
  simp only [hs]
  by_cases hneg : l - (x.length : Int) < 0
  · have hb : iLt (l - (x.length : Int)) 0 = true := by rw [iLt_eq]; simpa using hneg
    rw [hb]
    exact ⟨⟨fun _ => trivial, fun h => (by cases h)⟩, by rw [bSel_t]; left; omega⟩
  · have hb : iLt (l - (x.length : Int)) 0 = false := by rw [iLt_eq]; simpa using hneg
    rw [hb]
    have hg : ∀ i : Nat, i < x.length → ∀ m : Int, 0 ≤ m → m ≤ 1048576 → ok_laws_szStepS (x.getD i [], m) ∧ (v_laws_szStepS (x.getD i [], m) < 0 ∨ (0 ≤ v_laws_szStepS (x.getD i [], m) ∧ v_laws_szStepS (x.getD i [], m) ≤ m ∧ sm_StepS (x.getD i []))) := fun i hi m g0 g1 => sz_StepS _ (hw2 _ (getD_mem x i [] hi)) m g0 g1
    refine ⟨⟨fun h => (by cases h), fun _ => sz_ok x [] sm_StepS (fun a m => v_laws_szStepS (a, m)) (l - (x.length : Int)) (by omega) (by omega) (by omega) (fun i hi m g0 g1 => (hg i hi m g0 g1).2) (fun m i hi => by simp only [bAnd_eq, iLt_eq, lLen_eq, iNat_eq, lGet_eq, bNot_eq, Int.toNat_natCast, Int.ofNat_lt]) (fun m i hi => by simp only [iNat_eq, lGet_eq, Int.toNat_natCast]) (fun m i g0 g1 hi => ?_)⟩, ?_⟩
    · simp only [iLt_eq, lLen_eq, iNat_eq, lGet_eq, decide_eq_true_eq, Int.toNat_natCast]
      exact ⟨fun hh => ⟨by omega, by omega, (hg i (by omega) m g0 g1).1⟩, fun _ => trivial⟩
    · rw [bSel_f]
      have hv := sz_v (c := fun st : Int × Int => bAnd (iLt st.2 (lLen x)) (bNot (iLt (v_laws_szStepS ((lGet x (iNat st.2) []), st.1)) 0))) (f := fun st => (v_laws_szStepS ((lGet x (iNat st.2) []), st.1), iAdd .i64 st.2 1)) x [] sm_StepS (fun a m => v_laws_szStepS (a, m)) (l - (x.length : Int)) (by omega) (by omega) (by omega) (fun i hi m g0 g1 => (hg i hi m g0 g1).2) (fun m i hi => by simp only [bAnd_eq, iLt_eq, lLen_eq, iNat_eq, lGet_eq, bNot_eq, Int.toNat_natCast, Int.ofNat_lt]) (fun m i hi => by simp only [iNat_eq, lGet_eq, Int.toNat_natCast])
      rcases sz_fin (l := l) (by omega) hv with h | ⟨h2, h3, h4⟩
      · exact .inl h
      · exact .inr ⟨h2, h3, (by omega), h4⟩
def sm_Engine (x : Int × (List (List (Int × Int × Int × Int))) × (List (List (Int × Int × Int))) × Int × (List (Int × Int × Int × Int × Int)) × Int × Bool) : Prop := sm_Keymap (x.1, x.2.1) ∧ sm_StepSS x.2.2.1 ∧ sm_HeldS x.2.2.2.2.1 ∧ True
def wl_Engine (x : Int × (List (List (Int × Int × Int × Int))) × (List (List (Int × Int × Int))) × Int × (List (Int × Int × Int × Int × Int)) × Int × Bool) : Prop := wl_Keymap (x.1, x.2.1) ∧ wl_StepSS x.2.2.1 ∧ wl_HeldS x.2.2.2.2.1 ∧ True
theorem sz_Engine (x : Int × (List (List (Int × Int × Int × Int))) × (List (List (Int × Int × Int))) × Int × (List (Int × Int × Int × Int × Int)) × Int × Bool) (hw : wl_Engine x) (l : Int) (h0 : 0 ≤ l) (h1 : l ≤ 1048576) : ok_laws_szEngine (x, l) ∧ (v_laws_szEngine (x, l) < 0 ∨ (0 ≤ v_laws_szEngine (x, l) ∧ v_laws_szEngine (x, l) ≤ l ∧ sm_Engine x)) := by
  rw [oe_laws_szEngine, ve_laws_szEngine]
  have hx := hw
  unfold wl_Engine at hw
  obtain ⟨k0, g0⟩ := sz_Keymap (x.1, x.2.1) hw.1 l (by omega) (by omega)
  generalize hz0 : v_laws_szKeymap ((x.1, x.2.1), l) = z0 at g0 ⊢
  rcases g0 with g0 | ⟨g0, g0', g0''⟩
  · have hb : iLt z0 0 = true := by rw [iLt_eq]; simpa using g0
    refine ⟨?_, ?_⟩
    · simp [k0, hb]
    · simp only [hb, bSel_t]; left; omega
  have hb0 : iLt z0 0 = false := by rw [iLt_eq]; simpa using g0
  simp only [hb0, bSel_f]
  obtain ⟨k1, g1⟩ := sz_StepSS x.2.2.1 hw.2.1 z0 (by omega) (by omega)
  generalize hz1 : v_laws_szStepSS (x.2.2.1, z0) = z1 at g1 ⊢
  rcases g1 with g1 | ⟨g1, g1', g1''⟩
  · have hb : iLt z1 0 = true := by rw [iLt_eq]; simpa using g1
    refine ⟨?_, ?_⟩
    · simp [k0, k1, hb]
    · simp only [hb, bSel_t]; left; omega
  have hb1 : iLt z1 0 = false := by rw [iLt_eq]; simpa using g1
  simp only [hb1, bSel_f]
  obtain ⟨k2, g2⟩ := sz_HeldS x.2.2.2.2.1 hw.2.2.1 z1 (by omega) (by omega)
  generalize hz2 : v_laws_szHeldS (x.2.2.2.2.1, z1) = z2 at g2 ⊢
  rcases g2 with g2 | ⟨g2, g2', g2''⟩
  · have hb : iLt z2 0 = true := by rw [iLt_eq]; simpa using g2
    refine ⟨?_, ?_⟩
    · simp [k0, k1, k2, hb]
    · simp only [hb, bSel_t]; left; omega
  have hb2 : iLt z2 0 = false := by rw [iLt_eq]; simpa using g2
  simp only [hb2, bSel_f]
  exact ⟨by simp [k0, k1, k2], .inr ⟨by omega, by omega, g0'', g1'', g2'', trivial⟩⟩
theorem to_Step (x : Int × Int × Int) (h : sm_Step x) : ok_laws_toStep x ∧ v_laws_toStep x = x := by
  rw [oe_laws_toStep, ve_laws_toStep]
  exact ⟨trivial, rfl⟩
theorem to_StepS (x : List (Int × Int × Int)) (h : sm_StepS x) : ok_laws_toStepS x ∧ v_laws_toStepS x = x := by
  rw [oe_laws_toStepS, ve_laws_toStepS]
  obtain ⟨h1, h2⟩ := h
  have hY : ∀ i : Nat, i < x.length → ok_laws_toStep ((x.getD i (0, 0, 0)).1, (x.getD i (0, 0, 0)).2.1, (x.getD i (0, 0, 0)).2.2) ∧ v_laws_toStep ((x.getD i (0, 0, 0)).1, (x.getD i (0, 0, 0)).2.1, (x.getD i (0, 0, 0)).2.2) = x.getD i (0, 0, 0) := fun i hi => to_Step _ (h2 _ (getD_mem x i (0, 0, 0) hi))
  refine ⟨⟨⟨by rw [lLen_eq]; omega, roomy_of (by rw [lLen_eq]; omega) (by rw [lLen_eq]; omega) (by omega)⟩, copyg_ok x (0, 0, 0) (0, 0, 0) h1 (fun _ => rfl) (fun l i hi => by simp only [lSet_eq, lGet_eq, iNat_eq, Int.toNat_natCast]; rw [(hY i hi).2]) (fun l i hl hi => ?_)⟩, copyg_v x (0, 0, 0) (0, 0, 0) h1 (fun _ => rfl) (fun l i hi => by simp only [lSet_eq, lGet_eq, iNat_eq, Int.toNat_natCast]; rw [(hY i hi).2])⟩
  simp only [iLt_eq, lLen_eq, iNat_eq, lGet_eq, decide_eq_true_eq, Int.toNat_natCast]
  exact ⟨fun hh => ⟨by omega, by omega, (hY i (by omega)).1, by omega, by omega⟩, fun _ => trivial⟩
theorem to_StepSS (x : List (List (Int × Int × Int))) (h : sm_StepSS x) : ok_laws_toStepSS x ∧ v_laws_toStepSS x = x := by
  rw [oe_laws_toStepSS, ve_laws_toStepSS]
  obtain ⟨h1, h2⟩ := h
  have hY : ∀ i : Nat, i < x.length → ok_laws_toStepS (x.getD i []) ∧ v_laws_toStepS (x.getD i []) = x.getD i [] := fun i hi => to_StepS _ (h2 _ (getD_mem x i [] hi))
  refine ⟨⟨⟨by rw [lLen_eq]; omega, roomy_of (by rw [lLen_eq]; omega) (by rw [lLen_eq]; omega) (by omega)⟩, copyg_ok x [] [] h1 (fun _ => rfl) (fun l i hi => by simp only [lSet_eq, lGet_eq, iNat_eq, Int.toNat_natCast]; rw [(hY i hi).2]) (fun l i hl hi => ?_)⟩, copyg_v x [] [] h1 (fun _ => rfl) (fun l i hi => by simp only [lSet_eq, lGet_eq, iNat_eq, Int.toNat_natCast]; rw [(hY i hi).2])⟩
  simp only [iLt_eq, lLen_eq, iNat_eq, lGet_eq, decide_eq_true_eq, Int.toNat_natCast]
  exact ⟨fun hh => ⟨by omega, by omega, (hY i (by omega)).1, by omega, by omega⟩, fun _ => trivial⟩
theorem to_Engine (x : Int × (List (List (Int × Int × Int × Int))) × (List (List (Int × Int × Int))) × Int × (List (Int × Int × Int × Int × Int)) × Int × Bool) (h : sm_Engine x) : ok_laws_toEngine x ∧ v_laws_toEngine x = x := by
  rw [oe_laws_toEngine, ve_laws_toEngine]
  have k0 := to_Keymap (x.1, x.2.1) (by unfold sm_Engine at h; exact h.1)
  have k1 := to_StepSS x.2.2.1 (by unfold sm_Engine at h; exact h.2.1)
  have k2 := to_HeldS x.2.2.2.2.1 (by unfold sm_Engine at h; exact h.2.2.1)
  refine ⟨⟨k0.1, k1.1, k2.1⟩, ?_⟩
  simp only [k0.2, k1.2, k2.2]
theorem eq_Step (a b : Int × Int × Int) (h : sm_Step a) : ok_laws_eqStep (a, b) ∧ (v_laws_eqStep (a, b) = true ↔ a = b) := by
  obtain ⟨a0, a1, a2⟩ := a
  obtain ⟨b0, b1, b2⟩ := b
  rw [oe_laws_eqStep, ve_laws_eqStep]
  refine ⟨by simp, ?_⟩
  simp only [bNot_eq, bAnd_eq, bIff_eq, iNe_eq, Bool.and_eq_true, Bool.not_not, decide_eq_true_eq, Prod.mk.injEq, beq_iff_eq]
  try (constructor <;> intro h <;> simp_all)
theorem eq_StepS (a b : List (Int × Int × Int)) (h : sm_StepS a) : ok_laws_eqStepS (a, b) ∧ (v_laws_eqStepS (a, b) = true ↔ a = b) := by
  rw [oe_laws_eqStepS, ve_laws_eqStepS]
  obtain ⟨h1, h2⟩ := h
  have hY : ∀ i : Nat, i < a.length → ok_laws_eqStep (((lGet a i (0, 0, 0)).1, (lGet a i (0, 0, 0)).2.1, (lGet a i (0, 0, 0)).2.2), ((lGet b i (0, 0, 0)).1, (lGet b i (0, 0, 0)).2.1, (lGet b i (0, 0, 0)).2.2)) ∧ (v_laws_eqStep (((lGet a i (0, 0, 0)).1, (lGet a i (0, 0, 0)).2.1, (lGet a i (0, 0, 0)).2.2), ((lGet b i (0, 0, 0)).1, (lGet b i (0, 0, 0)).2.1, (lGet b i (0, 0, 0)).2.2)) = true ↔ a.getD i (0, 0, 0) = b.getD i (0, 0, 0)) := fun i hi => by
    have := eq_Step (a.getD i (0, 0, 0)) (b.getD i (0, 0, 0)) (h2 _ (getD_mem a i (0, 0, 0) hi))
    rw [lGet_eq, lGet_eq]; exact this
  by_cases hl : a.length = b.length
  · refine ⟨⟨fun _ => trivial, fun _ => eq_ok a b (0, 0, 0) (fun i => bNot (v_laws_eqStep (((lGet a i (0, 0, 0)).1, (lGet a i (0, 0, 0)).2.1, (lGet a i (0, 0, 0)).2.2), ((lGet b i (0, 0, 0)).1, (lGet b i (0, 0, 0)).2.1, (lGet b i (0, 0, 0)).2.2)))) hl (fun i hi => by simp only [bNot_eq, Bool.not_eq_false', (hY i hi).2]) (by omega) (fun i hi => by simp only [bAnd_eq, iLt_eq, lLen_eq, iNat_eq, bNot_eq, Int.toNat_natCast, Int.ofNat_lt]) (fun i hi => rfl) (fun i hi => ?_)⟩, ?_⟩
    · simp only [iLt_eq, lLen_eq, iNat_eq, decide_eq_true_eq, Int.toNat_natCast]
      exact ⟨fun hh => ⟨by omega, by omega, by omega, by omega, (hY i (by omega)).1⟩, fun _ => trivial⟩
    · have hv := eq_v (c := fun i : Int => bAnd (iLt i (lLen a)) (bNot ((fun i => bNot (v_laws_eqStep (((lGet a i (0, 0, 0)).1, (lGet a i (0, 0, 0)).2.1, (lGet a i (0, 0, 0)).2.2), ((lGet b i (0, 0, 0)).1, (lGet b i (0, 0, 0)).2.1, (lGet b i (0, 0, 0)).2.2)))) i.toNat))) (f := fun i => iAdd .i64 i 1) a b (0, 0, 0) (fun i => bNot (v_laws_eqStep (((lGet a i (0, 0, 0)).1, (lGet a i (0, 0, 0)).2.1, (lGet a i (0, 0, 0)).2.2), ((lGet b i (0, 0, 0)).1, (lGet b i (0, 0, 0)).2.1, (lGet b i (0, 0, 0)).2.2)))) hl (fun i hi => by simp only [bNot_eq, Bool.not_eq_false', (hY i hi).2]) (by omega) (fun i hi => by simp only [bAnd_eq, iLt_eq, lLen_eq, bNot_eq, Int.toNat_natCast, Int.ofNat_lt]) (fun i hi => rfl)
      have e1 : bNot (iNe (lLen a) (lLen b)) = true := by rw [bNot_eq, iNe_eq, lLen_eq, lLen_eq, hl]; simp
      rw [e1, bAnd_eq true, Bool.true_and, bNot_eq (iLt _ (lLen a)), iLt_eq _ (lLen a)]
      simp only [← iNat_eq, lLen_eq] at hv ⊢
      simp only [Bool.not_eq_true', decide_eq_false_iff_not]
      rw [hv]; simp
  · have e1 : bNot (iNe (lLen a) (lLen b)) = false := by rw [bNot_eq, iNe_eq, lLen_eq, lLen_eq]; simp; omega
    refine ⟨⟨fun _ => trivial, fun h => ?_⟩, ?_⟩
    · rw [bNot_eq] at e1; rw [h] at e1; cases e1
    · rw [e1, bAnd_eq, Bool.false_and]; constructor
      · intro h; cases h
      · intro e; subst e; exact absurd rfl hl
theorem eq_StepSS (a b : List (List (Int × Int × Int))) (h : sm_StepSS a) : ok_laws_eqStepSS (a, b) ∧ (v_laws_eqStepSS (a, b) = true ↔ a = b) := by
  rw [oe_laws_eqStepSS, ve_laws_eqStepSS]
  obtain ⟨h1, h2⟩ := h
  have hY : ∀ i : Nat, i < a.length → ok_laws_eqStepS ((lGet a i []), (lGet b i [])) ∧ (v_laws_eqStepS ((lGet a i []), (lGet b i [])) = true ↔ a.getD i [] = b.getD i []) := fun i hi => by
    have := eq_StepS (a.getD i []) (b.getD i []) (h2 _ (getD_mem a i [] hi))
    rw [lGet_eq, lGet_eq]; exact this
  by_cases hl : a.length = b.length
  · refine ⟨⟨fun _ => trivial, fun _ => eq_ok a b [] (fun i => bNot (v_laws_eqStepS ((lGet a i []), (lGet b i [])))) hl (fun i hi => by simp only [bNot_eq, Bool.not_eq_false', (hY i hi).2]) (by omega) (fun i hi => by simp only [bAnd_eq, iLt_eq, lLen_eq, iNat_eq, bNot_eq, Int.toNat_natCast, Int.ofNat_lt]) (fun i hi => rfl) (fun i hi => ?_)⟩, ?_⟩
    · simp only [iLt_eq, lLen_eq, iNat_eq, decide_eq_true_eq, Int.toNat_natCast]
      exact ⟨fun hh => ⟨by omega, by omega, by omega, by omega, (hY i (by omega)).1⟩, fun _ => trivial⟩
    · have hv := eq_v (c := fun i : Int => bAnd (iLt i (lLen a)) (bNot ((fun i => bNot (v_laws_eqStepS ((lGet a i []), (lGet b i [])))) i.toNat))) (f := fun i => iAdd .i64 i 1) a b [] (fun i => bNot (v_laws_eqStepS ((lGet a i []), (lGet b i [])))) hl (fun i hi => by simp only [bNot_eq, Bool.not_eq_false', (hY i hi).2]) (by omega) (fun i hi => by simp only [bAnd_eq, iLt_eq, lLen_eq, bNot_eq, Int.toNat_natCast, Int.ofNat_lt]) (fun i hi => rfl)
      have e1 : bNot (iNe (lLen a) (lLen b)) = true := by rw [bNot_eq, iNe_eq, lLen_eq, lLen_eq, hl]; simp
      rw [e1, bAnd_eq true, Bool.true_and, bNot_eq (iLt _ (lLen a)), iLt_eq _ (lLen a)]
      simp only [← iNat_eq, lLen_eq] at hv ⊢
      simp only [Bool.not_eq_true', decide_eq_false_iff_not]
      rw [hv]; simp
  · have e1 : bNot (iNe (lLen a) (lLen b)) = false := by rw [bNot_eq, iNe_eq, lLen_eq, lLen_eq]; simp; omega
    refine ⟨⟨fun _ => trivial, fun h => ?_⟩, ?_⟩
    · rw [bNot_eq] at e1; rw [h] at e1; cases e1
    · rw [e1, bAnd_eq, Bool.false_and]; constructor
      · intro h; cases h
      · intro e; subst e; exact absurd rfl hl
theorem eq_Engine (a b : Int × (List (List (Int × Int × Int × Int))) × (List (List (Int × Int × Int))) × Int × (List (Int × Int × Int × Int × Int)) × Int × Bool) (h : sm_Engine a) : ok_laws_eqEngine (a, b) ∧ (v_laws_eqEngine (a, b) = true ↔ a = b) := by
  obtain ⟨a0, a1, a2, a3, a4, a5, a6⟩ := a
  obtain ⟨b0, b1, b2, b3, b4, b5, b6⟩ := b
  have k0 := eq_Keymap (a0, a1) (b0, b1) (by unfold sm_Engine at h; exact h.1)
  have k1 := eq_StepSS a2 b2 (by unfold sm_Engine at h; exact h.2.1)
  have k2 := eq_HeldS a4 b4 (by unfold sm_Engine at h; exact h.2.2.1)
  rw [oe_laws_eqEngine, ve_laws_eqEngine]
  refine ⟨by simp [k0.1, k0.2, k1.1, k1.2, k2.1, k2.2], ?_⟩
  simp only [k0.1, k0.2, k1.1, k1.2, k2.1, k2.2, bNot_eq, bAnd_eq, bIff_eq, iNe_eq, Bool.and_eq_true, Bool.not_not, decide_eq_true_eq, Prod.mk.injEq, beq_iff_eq]
  try (constructor <;> intro h <;> simp_all)
theorem heldAt_eq (x) : v_spec_HeldAt x = v_impl_HeldAt x := by rw [ve_spec_HeldAt, ve_impl_HeldAt]
theorem ok_heldAt (x : (Int × List (List (Int × Int × Int × Int)) × List (List (Int × Int × Int)) × Int × List (Int × Int × Int × Int × Int) × Int × Bool) × Int) (h : x.1.2.2.2.2.1.length ≤ 1048576) : ok_spec_HeldAt x ∧ ok_impl_HeldAt x := by
  rw [oe_spec_HeldAt, oe_impl_HeldAt]
  have : ∀ {c : Int → Bool} {f : Int → Int} {p : Int → Prop}, (∀ st, c st = true → st < x.1.2.2.2.2.1.length) → (∀ st, f st = iAdd .i64 st 1) → (∀ st : Int, 0 ≤ st → st ≤ x.1.2.2.2.2.1.length → p st) → LoopOk c f p 0 := fun hc hf hp =>
    cnt_ok (fun st => st) x.1.2.2.2.2.1.length (by omega) (fun st _ _ h => hc st h) hf hp (by simp) (by simp)
  constructor
  all_goals
    refine this (fun st hc => ?_) (fun _ => rfl) (fun st h0 h1 => ⟨fun hlt => ?_, fun _ => trivial⟩)
    · rw [bAnd_eq, iLt_eq, lLen_eq, Bool.and_eq_true, decide_eq_true_eq] at hc; exact hc.1
    · rw [iLt_eq, lLen_eq, decide_eq_true_eq] at hlt
      exact ⟨⟨h0, hlt⟩, by rw [iNat_eq]; omega⟩
theorem wl_StepSS_of {x : List (List (Int × Int × Int))} (h : CT.wf (.sl (.one (.sl (.cons (.int .i64) (.cons (.int .i64) (.one (.int .i64))))))) x) : wl_StepSS x := by
  exact ⟨h.1, fun l hl => ⟨(h.2 l hl).1, fun a _ => by simp [wl_Step]⟩⟩
theorem plain_FnExactHeldAt (x : (Int × List (List (Int × Int × Int × Int)) × List (List (Int × Int × Int)) × Int × List (Int × Int × Int × Int × Int) × Int × Bool) × Int) (hw : TuX.wf h_laws_FnExactHeldAt x) : ok_laws_FnExactHeldAt x ∧ v_laws_FnExactHeldAt x = true := by
  obtain ⟨⟨k, lay, mac, fx, held, once, caps⟩, key⟩ := x
  rw [oe_laws_FnExactHeldAt, ve_laws_FnExactHeldAt]
  obtain ⟨w1, w2, w3, w4, w5, w6, w7⟩ := hw.1
  have hwl : wl_Engine (k, lay, mac, fx, held, once, caps) := ⟨wl_Keymap_of w2, wl_StepSS_of w3, ⟨w5.1, fun a _ => by simp [wl_Held, wl_Action]⟩, trivial⟩
  obtain ⟨k1, k2⟩ := sz_Engine (k, lay, mac, fx, held, once, caps) hwl 1048576 (by omega) (by omega)
  rcases k2 with k2 | ⟨k2, _, k3⟩
  · have e : iLt (v_laws_szEngine ((k, lay, mac, fx, held, once, caps), 1048576)) 0 = true := by rw [iLt_eq]; simpa using k2
    simp only [e]; simp [bOr_eq, k1]
  · have e : iLt (v_laws_szEngine ((k, lay, mac, fx, held, once, caps), 1048576)) 0 = false := by rw [iLt_eq]; simpa using k2
    obtain ⟨t1, t2⟩ := to_Engine (k, lay, mac, fx, held, once, caps) k3
    obtain ⟨q1, q2⟩ := eq_Engine (k, lay, mac, fx, held, once, caps) (k, lay, mac, fx, held, once, caps) k3
    have q2 := q2.2 rfl
    have hl : held.length ≤ 1048576 := k3.2.2.1.1
    simp only [e, t2, heldAt_eq, q2]
    simp [k1, t1, q1, (ok_heldAt ((k, lay, mac, fx, held, once, caps), key) hl).1, (ok_heldAt ((k, lay, mac, fx, held, once, caps), key) hl).2, bOr_eq, bAnd_eq, bNot_eq, iNe_eq]
end Go.Ag
