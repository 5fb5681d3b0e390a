/- Part 6 of what FnFlavors needs. No conditions. -/
import Derived.Test.YtkjnachjeoeihaaLibE
namespace Go.Ag
set_option linter.unusedSimpArgs false
set_option linter.unusedVariables false
section
set_option maxRecDepth 100000
theorem ve_spec_IsTiming (x : Int × Int × Int) : v_spec_IsTiming x = (bAnd (v_spec_l1In (x.1, 1, 1000)) (bAnd (v_spec_l1In (x.2.1, 0, 1000)) (v_spec_l1In (x.2.2, 0, 2)))) := (vu_spec_IsTiming x).trans (by kernel_rfl)
theorem oe_spec_IsTiming (x : Int × Int × Int) : ok_spec_IsTiming x = ((ok_spec_l1In (x.1, 1, 1000)) ∧ (((v_spec_l1In (x.1, 1, 1000)) = true → ((ok_spec_l1In (x.2.1, 0, 1000)) ∧ (((v_spec_l1In (x.2.1, 0, 1000)) = true → (ok_spec_l1In (x.2.2, 0, 2))) ∧ ((v_spec_l1In (x.2.1, 0, 1000)) = false → True)))) ∧ ((v_spec_l1In (x.1, 1, 1000)) = false → True))) := (ou_spec_IsTiming x).trans (by kernel_rfl)
theorem ve_spec_IsEvent (x : Int × Int × Bool) : v_spec_IsEvent x = (bAnd (v_spec_l1In (x.1, 0, 1000000)) (v_spec_l1In (x.2.1, 0, 31))) := (vu_spec_IsEvent x).trans (by kernel_rfl)
theorem oe_spec_IsEvent (x : Int × Int × Bool) : ok_spec_IsEvent x = ((ok_spec_l1In (x.1, 0, 1000000)) ∧ (((v_spec_l1In (x.1, 0, 1000000)) = true → (ok_spec_l1In (x.2.1, 0, 31))) ∧ ((v_spec_l1In (x.1, 0, 1000000)) = false → True))) := (ou_spec_IsEvent x).trans (by kernel_rfl)
theorem ve_spec_ChoiceOf (x : (Int × Int × Int) × Int × Int × (List (Int × Int × Bool)) × Int) : v_spec_ChoiceOf x = (bSel (bOr (bNot (v_spec_IsTiming (x.1.1, x.1.2.1, x.1.2.2))) (bNot (v_spec_l1In (x.2.2.1, 0, 1000000)))) (0, 0) (bSel (iLt (loopV (fun (x0 : (Int × Int)) => (bAnd (iLt x0.2 (lLen x.2.2.2.1)) (bAnd (bNot (bNot (v_spec_IsEvent ((lGet x.2.2.2.1 (iNat x0.2) (0, 0, false)).1, (lGet x.2.2.2.1 (iNat x0.2) (0, 0, false)).2.1, (lGet x.2.2.2.1 (iNat x0.2) (0, 0, false)).2.2)))) (bAnd (bNot (iGe (lGet x.2.2.2.1 (iNat x0.2) (0, 0, false)).1 (iAdd Go.IntKind.i64 x.2.2.1 x.1.1))) (bAnd (bNot (bAnd (iEq (lGet x.2.2.2.1 (iNat x0.2) (0, 0, false)).2.1 x.2.1) (bNot (lGet x.2.2.2.1 (iNat x0.2) (0, 0, false)).2.2))) (bOr (iEq (lGet x.2.2.2.1 (iNat x0.2) (0, 0, false)).2.1 x.2.1) (bAnd (bNot (bAnd (lGet x.2.2.2.1 (iNat x0.2) (0, 0, false)).2.2 (iEq x.1.2.2 1))) (bOr (lGet x.2.2.2.1 (iNat x0.2) (0, 0, false)).2.2 (bNot (bAnd (iEq x.1.2.2 2) (iEq (iAnd Go.IntKind.i64 (iShr Go.IntKind.i64 x0.1 (lGet x.2.2.2.1 (iNat x0.2) (0, 0, false)).2.1) 1) 1))))))))))) (fun (x0 : (Int × Int)) => ((bSel (iEq (lGet x.2.2.2.1 (iNat x0.2) (0, 0, false)).2.1 x.2.1) x0.1 (bSel (lGet x.2.2.2.1 (iNat x0.2) (0, 0, false)).2.2 (iOr Go.IntKind.i64 x0.1 (iShl Go.IntKind.i64 1 (lGet x.2.2.2.1 (iNat x0.2) (0, 0, false)).2.1)) x0.1)), (iAdd Go.IntKind.i64 x0.2 1))) (0, 0)).2 (lLen x.2.2.2.1)) (bSel (bNot (v_spec_IsEvent ((lGet x.2.2.2.1 (iNat (loopV (fun (x0 : (Int × Int)) => (bAnd (iLt x0.2 (lLen x.2.2.2.1)) (bAnd (bNot (bNot (v_spec_IsEvent ((lGet x.2.2.2.1 (iNat x0.2) (0, 0, false)).1, (lGet x.2.2.2.1 (iNat x0.2) (0, 0, false)).2.1, (lGet x.2.2.2.1 (iNat x0.2) (0, 0, false)).2.2)))) (bAnd (bNot (iGe (lGet x.2.2.2.1 (iNat x0.2) (0, 0, false)).1 (iAdd Go.IntKind.i64 x.2.2.1 x.1.1))) (bAnd (bNot (bAnd (iEq (lGet x.2.2.2.1 (iNat x0.2) (0, 0, false)).2.1 x.2.1) (bNot (lGet x.2.2.2.1 (iNat x0.2) (0, 0, false)).2.2))) (bOr (iEq (lGet x.2.2.2.1 (iNat x0.2) (0, 0, false)).2.1 x.2.1) (bAnd (bNot (bAnd (lGet x.2.2.2.1 (iNat x0.2) (0, 0, false)).2.2 (iEq x.1.2.2 1))) (bOr (lGet x.2.2.2.1 (iNat x0.2) (0, 0, false)).2.2 (bNot (bAnd (iEq x.1.2.2 2) (iEq (iAnd Go.IntKind.i64 (iShr Go.IntKind.i64 x0.1 (lGet x.2.2.2.1 (iNat x0.2) (0, 0, false)).2.1) 1) 1))))))))))) (fun (x0 : (Int × Int)) => ((bSel (iEq (lGet x.2.2.2.1 (iNat x0.2) (0, 0, false)).2.1 x.2.1) x0.1 (bSel (lGet x.2.2.2.1 (iNat x0.2) (0, 0, false)).2.2 (iOr Go.IntKind.i64 x0.1 (iShl Go.IntKind.i64 1 (lGet x.2.2.2.1 (iNat x0.2) (0, 0, false)).2.1)) x0.1)), (iAdd Go.IntKind.i64 x0.2 1))) (0, 0)).2) (0, 0, false)).1, (lGet x.2.2.2.1 (iNat (loopV (fun (x0 : (Int × Int)) => (bAnd (iLt x0.2 (lLen x.2.2.2.1)) (bAnd (bNot (bNot (v_spec_IsEvent ((lGet x.2.2.2.1 (iNat x0.2) (0, 0, false)).1, (lGet x.2.2.2.1 (iNat x0.2) (0, 0, false)).2.1, (lGet x.2.2.2.1 (iNat x0.2) (0, 0, false)).2.2)))) (bAnd (bNot (iGe (lGet x.2.2.2.1 (iNat x0.2) (0, 0, false)).1 (iAdd Go.IntKind.i64 x.2.2.1 x.1.1))) (bAnd (bNot (bAnd (iEq (lGet x.2.2.2.1 (iNat x0.2) (0, 0, false)).2.1 x.2.1) (bNot (lGet x.2.2.2.1 (iNat x0.2) (0, 0, false)).2.2))) (bOr (iEq (lGet x.2.2.2.1 (iNat x0.2) (0, 0, false)).2.1 x.2.1) (bAnd (bNot (bAnd (lGet x.2.2.2.1 (iNat x0.2) (0, 0, false)).2.2 (iEq x.1.2.2 1))) (bOr (lGet x.2.2.2.1 (iNat x0.2) (0, 0, false)).2.2 (bNot (bAnd (iEq x.1.2.2 2) (iEq (iAnd Go.IntKind.i64 (iShr Go.IntKind.i64 x0.1 (lGet x.2.2.2.1 (iNat x0.2) (0, 0, false)).2.1) 1) 1))))))))))) (fun (x0 : (Int × Int)) => ((bSel (iEq (lGet x.2.2.2.1 (iNat x0.2) (0, 0, false)).2.1 x.2.1) x0.1 (bSel (lGet x.2.2.2.1 (iNat x0.2) (0, 0, false)).2.2 (iOr Go.IntKind.i64 x0.1 (iShl Go.IntKind.i64 1 (lGet x.2.2.2.1 (iNat x0.2) (0, 0, false)).2.1)) x0.1)), (iAdd Go.IntKind.i64 x0.2 1))) (0, 0)).2) (0, 0, false)).2.1, (lGet x.2.2.2.1 (iNat (loopV (fun (x0 : (Int × Int)) => (bAnd (iLt x0.2 (lLen x.2.2.2.1)) (bAnd (bNot (bNot (v_spec_IsEvent ((lGet x.2.2.2.1 (iNat x0.2) (0, 0, false)).1, (lGet x.2.2.2.1 (iNat x0.2) (0, 0, false)).2.1, (lGet x.2.2.2.1 (iNat x0.2) (0, 0, false)).2.2)))) (bAnd (bNot (iGe (lGet x.2.2.2.1 (iNat x0.2) (0, 0, false)).1 (iAdd Go.IntKind.i64 x.2.2.1 x.1.1))) (bAnd (bNot (bAnd (iEq (lGet x.2.2.2.1 (iNat x0.2) (0, 0, false)).2.1 x.2.1) (bNot (lGet x.2.2.2.1 (iNat x0.2) (0, 0, false)).2.2))) (bOr (iEq (lGet x.2.2.2.1 (iNat x0.2) (0, 0, false)).2.1 x.2.1) (bAnd (bNot (bAnd (lGet x.2.2.2.1 (iNat x0.2) (0, 0, false)).2.2 (iEq x.1.2.2 1))) (bOr (lGet x.2.2.2.1 (iNat x0.2) (0, 0, false)).2.2 (bNot (bAnd (iEq x.1.2.2 2) (iEq (iAnd Go.IntKind.i64 (iShr Go.IntKind.i64 x0.1 (lGet x.2.2.2.1 (iNat x0.2) (0, 0, false)).2.1) 1) 1))))))))))) (fun (x0 : (Int × Int)) => ((bSel (iEq (lGet x.2.2.2.1 (iNat x0.2) (0, 0, false)).2.1 x.2.1) x0.1 (bSel (lGet x.2.2.2.1 (iNat x0.2) (0, 0, false)).2.2 (iOr Go.IntKind.i64 x0.1 (iShl Go.IntKind.i64 1 (lGet x.2.2.2.1 (iNat x0.2) (0, 0, false)).2.1)) x0.1)), (iAdd Go.IntKind.i64 x0.2 1))) (0, 0)).2) (0, 0, false)).2.2))) (0, 0) (bSel (iGe (lGet x.2.2.2.1 (iNat (loopV (fun (x0 : (Int × Int)) => (bAnd (iLt x0.2 (lLen x.2.2.2.1)) (bAnd (bNot (bNot (v_spec_IsEvent ((lGet x.2.2.2.1 (iNat x0.2) (0, 0, false)).1, (lGet x.2.2.2.1 (iNat x0.2) (0, 0, false)).2.1, (lGet x.2.2.2.1 (iNat x0.2) (0, 0, false)).2.2)))) (bAnd (bNot (iGe (lGet x.2.2.2.1 (iNat x0.2) (0, 0, false)).1 (iAdd Go.IntKind.i64 x.2.2.1 x.1.1))) (bAnd (bNot (bAnd (iEq (lGet x.2.2.2.1 (iNat x0.2) (0, 0, false)).2.1 x.2.1) (bNot (lGet x.2.2.2.1 (iNat x0.2) (0, 0, false)).2.2))) (bOr (iEq (lGet x.2.2.2.1 (iNat x0.2) (0, 0, false)).2.1 x.2.1) (bAnd (bNot (bAnd (lGet x.2.2.2.1 (iNat x0.2) (0, 0, false)).2.2 (iEq x.1.2.2 1))) (bOr (lGet x.2.2.2.1 (iNat x0.2) (0, 0, false)).2.2 (bNot (bAnd (iEq x.1.2.2 2) (iEq (iAnd Go.IntKind.i64 (iShr Go.IntKind.i64 x0.1 (lGet x.2.2.2.1 (iNat x0.2) (0, 0, false)).2.1) 1) 1))))))))))) (fun (x0 : (Int × Int)) => ((bSel (iEq (lGet x.2.2.2.1 (iNat x0.2) (0, 0, false)).2.1 x.2.1) x0.1 (bSel (lGet x.2.2.2.1 (iNat x0.2) (0, 0, false)).2.2 (iOr Go.IntKind.i64 x0.1 (iShl Go.IntKind.i64 1 (lGet x.2.2.2.1 (iNat x0.2) (0, 0, false)).2.1)) x0.1)), (iAdd Go.IntKind.i64 x0.2 1))) (0, 0)).2) (0, 0, false)).1 (iAdd Go.IntKind.i64 x.2.2.1 x.1.1)) (2, (iAdd Go.IntKind.i64 x.2.2.1 x.1.1)) (bSel (bAnd (iEq (lGet x.2.2.2.1 (iNat (loopV (fun (x0 : (Int × Int)) => (bAnd (iLt x0.2 (lLen x.2.2.2.1)) (bAnd (bNot (bNot (v_spec_IsEvent ((lGet x.2.2.2.1 (iNat x0.2) (0, 0, false)).1, (lGet x.2.2.2.1 (iNat x0.2) (0, 0, false)).2.1, (lGet x.2.2.2.1 (iNat x0.2) (0, 0, false)).2.2)))) (bAnd (bNot (iGe (lGet x.2.2.2.1 (iNat x0.2) (0, 0, false)).1 (iAdd Go.IntKind.i64 x.2.2.1 x.1.1))) (bAnd (bNot (bAnd (iEq (lGet x.2.2.2.1 (iNat x0.2) (0, 0, false)).2.1 x.2.1) (bNot (lGet x.2.2.2.1 (iNat x0.2) (0, 0, false)).2.2))) (bOr (iEq (lGet x.2.2.2.1 (iNat x0.2) (0, 0, false)).2.1 x.2.1) (bAnd (bNot (bAnd (lGet x.2.2.2.1 (iNat x0.2) (0, 0, false)).2.2 (iEq x.1.2.2 1))) (bOr (lGet x.2.2.2.1 (iNat x0.2) (0, 0, false)).2.2 (bNot (bAnd (iEq x.1.2.2 2) (iEq (iAnd Go.IntKind.i64 (iShr Go.IntKind.i64 x0.1 (lGet x.2.2.2.1 (iNat x0.2) (0, 0, false)).2.1) 1) 1))))))))))) (fun (x0 : (Int × Int)) => ((bSel (iEq (lGet x.2.2.2.1 (iNat x0.2) (0, 0, false)).2.1 x.2.1) x0.1 (bSel (lGet x.2.2.2.1 (iNat x0.2) (0, 0, false)).2.2 (iOr Go.IntKind.i64 x0.1 (iShl Go.IntKind.i64 1 (lGet x.2.2.2.1 (iNat x0.2) (0, 0, false)).2.1)) x0.1)), (iAdd Go.IntKind.i64 x0.2 1))) (0, 0)).2) (0, 0, false)).2.1 x.2.1) (bNot (lGet x.2.2.2.1 (iNat (loopV (fun (x0 : (Int × Int)) => (bAnd (iLt x0.2 (lLen x.2.2.2.1)) (bAnd (bNot (bNot (v_spec_IsEvent ((lGet x.2.2.2.1 (iNat x0.2) (0, 0, false)).1, (lGet x.2.2.2.1 (iNat x0.2) (0, 0, false)).2.1, (lGet x.2.2.2.1 (iNat x0.2) (0, 0, false)).2.2)))) (bAnd (bNot (iGe (lGet x.2.2.2.1 (iNat x0.2) (0, 0, false)).1 (iAdd Go.IntKind.i64 x.2.2.1 x.1.1))) (bAnd (bNot (bAnd (iEq (lGet x.2.2.2.1 (iNat x0.2) (0, 0, false)).2.1 x.2.1) (bNot (lGet x.2.2.2.1 (iNat x0.2) (0, 0, false)).2.2))) (bOr (iEq (lGet x.2.2.2.1 (iNat x0.2) (0, 0, false)).2.1 x.2.1) (bAnd (bNot (bAnd (lGet x.2.2.2.1 (iNat x0.2) (0, 0, false)).2.2 (iEq x.1.2.2 1))) (bOr (lGet x.2.2.2.1 (iNat x0.2) (0, 0, false)).2.2 (bNot (bAnd (iEq x.1.2.2 2) (iEq (iAnd Go.IntKind.i64 (iShr Go.IntKind.i64 x0.1 (lGet x.2.2.2.1 (iNat x0.2) (0, 0, false)).2.1) 1) 1))))))))))) (fun (x0 : (Int × Int)) => ((bSel (iEq (lGet x.2.2.2.1 (iNat x0.2) (0, 0, false)).2.1 x.2.1) x0.1 (bSel (lGet x.2.2.2.1 (iNat x0.2) (0, 0, false)).2.2 (iOr Go.IntKind.i64 x0.1 (iShl Go.IntKind.i64 1 (lGet x.2.2.2.1 (iNat x0.2) (0, 0, false)).2.1)) x0.1)), (iAdd Go.IntKind.i64 x0.2 1))) (0, 0)).2) (0, 0, false)).2.2)) (1, (lGet x.2.2.2.1 (iNat (loopV (fun (x0 : (Int × Int)) => (bAnd (iLt x0.2 (lLen x.2.2.2.1)) (bAnd (bNot (bNot (v_spec_IsEvent ((lGet x.2.2.2.1 (iNat x0.2) (0, 0, false)).1, (lGet x.2.2.2.1 (iNat x0.2) (0, 0, false)).2.1, (lGet x.2.2.2.1 (iNat x0.2) (0, 0, false)).2.2)))) (bAnd (bNot (iGe (lGet x.2.2.2.1 (iNat x0.2) (0, 0, false)).1 (iAdd Go.IntKind.i64 x.2.2.1 x.1.1))) (bAnd (bNot (bAnd (iEq (lGet x.2.2.2.1 (iNat x0.2) (0, 0, false)).2.1 x.2.1) (bNot (lGet x.2.2.2.1 (iNat x0.2) (0, 0, false)).2.2))) (bOr (iEq (lGet x.2.2.2.1 (iNat x0.2) (0, 0, false)).2.1 x.2.1) (bAnd (bNot (bAnd (lGet x.2.2.2.1 (iNat x0.2) (0, 0, false)).2.2 (iEq x.1.2.2 1))) (bOr (lGet x.2.2.2.1 (iNat x0.2) (0, 0, false)).2.2 (bNot (bAnd (iEq x.1.2.2 2) (iEq (iAnd Go.IntKind.i64 (iShr Go.IntKind.i64 x0.1 (lGet x.2.2.2.1 (iNat x0.2) (0, 0, false)).2.1) 1) 1))))))))))) (fun (x0 : (Int × Int)) => ((bSel (iEq (lGet x.2.2.2.1 (iNat x0.2) (0, 0, false)).2.1 x.2.1) x0.1 (bSel (lGet x.2.2.2.1 (iNat x0.2) (0, 0, false)).2.2 (iOr Go.IntKind.i64 x0.1 (iShl Go.IntKind.i64 1 (lGet x.2.2.2.1 (iNat x0.2) (0, 0, false)).2.1)) x0.1)), (iAdd Go.IntKind.i64 x0.2 1))) (0, 0)).2) (0, 0, false)).1) (bSel (bAnd (lGet x.2.2.2.1 (iNat (loopV (fun (x0 : (Int × Int)) => (bAnd (iLt x0.2 (lLen x.2.2.2.1)) (bAnd (bNot (bNot (v_spec_IsEvent ((lGet x.2.2.2.1 (iNat x0.2) (0, 0, false)).1, (lGet x.2.2.2.1 (iNat x0.2) (0, 0, false)).2.1, (lGet x.2.2.2.1 (iNat x0.2) (0, 0, false)).2.2)))) (bAnd (bNot (iGe (lGet x.2.2.2.1 (iNat x0.2) (0, 0, false)).1 (iAdd Go.IntKind.i64 x.2.2.1 x.1.1))) (bAnd (bNot (bAnd (iEq (lGet x.2.2.2.1 (iNat x0.2) (0, 0, false)).2.1 x.2.1) (bNot (lGet x.2.2.2.1 (iNat x0.2) (0, 0, false)).2.2))) (bOr (iEq (lGet x.2.2.2.1 (iNat x0.2) (0, 0, false)).2.1 x.2.1) (bAnd (bNot (bAnd (lGet x.2.2.2.1 (iNat x0.2) (0, 0, false)).2.2 (iEq x.1.2.2 1))) (bOr (lGet x.2.2.2.1 (iNat x0.2) (0, 0, false)).2.2 (bNot (bAnd (iEq x.1.2.2 2) (iEq (iAnd Go.IntKind.i64 (iShr Go.IntKind.i64 x0.1 (lGet x.2.2.2.1 (iNat x0.2) (0, 0, false)).2.1) 1) 1))))))))))) (fun (x0 : (Int × Int)) => ((bSel (iEq (lGet x.2.2.2.1 (iNat x0.2) (0, 0, false)).2.1 x.2.1) x0.1 (bSel (lGet x.2.2.2.1 (iNat x0.2) (0, 0, false)).2.2 (iOr Go.IntKind.i64 x0.1 (iShl Go.IntKind.i64 1 (lGet x.2.2.2.1 (iNat x0.2) (0, 0, false)).2.1)) x0.1)), (iAdd Go.IntKind.i64 x0.2 1))) (0, 0)).2) (0, 0, false)).2.2 (iEq x.1.2.2 1)) (2, (lGet x.2.2.2.1 (iNat (loopV (fun (x0 : (Int × Int)) => (bAnd (iLt x0.2 (lLen x.2.2.2.1)) (bAnd (bNot (bNot (v_spec_IsEvent ((lGet x.2.2.2.1 (iNat x0.2) (0, 0, false)).1, (lGet x.2.2.2.1 (iNat x0.2) (0, 0, false)).2.1, (lGet x.2.2.2.1 (iNat x0.2) (0, 0, false)).2.2)))) (bAnd (bNot (iGe (lGet x.2.2.2.1 (iNat x0.2) (0, 0, false)).1 (iAdd Go.IntKind.i64 x.2.2.1 x.1.1))) (bAnd (bNot (bAnd (iEq (lGet x.2.2.2.1 (iNat x0.2) (0, 0, false)).2.1 x.2.1) (bNot (lGet x.2.2.2.1 (iNat x0.2) (0, 0, false)).2.2))) (bOr (iEq (lGet x.2.2.2.1 (iNat x0.2) (0, 0, false)).2.1 x.2.1) (bAnd (bNot (bAnd (lGet x.2.2.2.1 (iNat x0.2) (0, 0, false)).2.2 (iEq x.1.2.2 1))) (bOr (lGet x.2.2.2.1 (iNat x0.2) (0, 0, false)).2.2 (bNot (bAnd (iEq x.1.2.2 2) (iEq (iAnd Go.IntKind.i64 (iShr Go.IntKind.i64 x0.1 (lGet x.2.2.2.1 (iNat x0.2) (0, 0, false)).2.1) 1) 1))))))))))) (fun (x0 : (Int × Int)) => ((bSel (iEq (lGet x.2.2.2.1 (iNat x0.2) (0, 0, false)).2.1 x.2.1) x0.1 (bSel (lGet x.2.2.2.1 (iNat x0.2) (0, 0, false)).2.2 (iOr Go.IntKind.i64 x0.1 (iShl Go.IntKind.i64 1 (lGet x.2.2.2.1 (iNat x0.2) (0, 0, false)).2.1)) x0.1)), (iAdd Go.IntKind.i64 x0.2 1))) (0, 0)).2) (0, 0, false)).1) (2, (lGet x.2.2.2.1 (iNat (loopV (fun (x0 : (Int × Int)) => (bAnd (iLt x0.2 (lLen x.2.2.2.1)) (bAnd (bNot (bNot (v_spec_IsEvent ((lGet x.2.2.2.1 (iNat x0.2) (0, 0, false)).1, (lGet x.2.2.2.1 (iNat x0.2) (0, 0, false)).2.1, (lGet x.2.2.2.1 (iNat x0.2) (0, 0, false)).2.2)))) (bAnd (bNot (iGe (lGet x.2.2.2.1 (iNat x0.2) (0, 0, false)).1 (iAdd Go.IntKind.i64 x.2.2.1 x.1.1))) (bAnd (bNot (bAnd (iEq (lGet x.2.2.2.1 (iNat x0.2) (0, 0, false)).2.1 x.2.1) (bNot (lGet x.2.2.2.1 (iNat x0.2) (0, 0, false)).2.2))) (bOr (iEq (lGet x.2.2.2.1 (iNat x0.2) (0, 0, false)).2.1 x.2.1) (bAnd (bNot (bAnd (lGet x.2.2.2.1 (iNat x0.2) (0, 0, false)).2.2 (iEq x.1.2.2 1))) (bOr (lGet x.2.2.2.1 (iNat x0.2) (0, 0, false)).2.2 (bNot (bAnd (iEq x.1.2.2 2) (iEq (iAnd Go.IntKind.i64 (iShr Go.IntKind.i64 x0.1 (lGet x.2.2.2.1 (iNat x0.2) (0, 0, false)).2.1) 1) 1))))))))))) (fun (x0 : (Int × Int)) => ((bSel (iEq (lGet x.2.2.2.1 (iNat x0.2) (0, 0, false)).2.1 x.2.1) x0.1 (bSel (lGet x.2.2.2.1 (iNat x0.2) (0, 0, false)).2.2 (iOr Go.IntKind.i64 x0.1 (iShl Go.IntKind.i64 1 (lGet x.2.2.2.1 (iNat x0.2) (0, 0, false)).2.1)) x0.1)), (iAdd Go.IntKind.i64 x0.2 1))) (0, 0)).2) (0, 0, false)).1))))) (bSel (iGe x.2.2.2.2 (iAdd Go.IntKind.i64 x.2.2.1 x.1.1)) (2, (iAdd Go.IntKind.i64 x.2.2.1 x.1.1)) (0, 0)))) := (vu_spec_ChoiceOf x).trans (by kernel_rfl)
theorem oe_spec_ChoiceOf (x : (Int × Int × Int) × Int × Int × (List (Int × Int × Bool)) × Int) : ok_spec_ChoiceOf x = (((ok_spec_IsTiming (x.1.1, x.1.2.1, x.1.2.2)) ∧ (((bNot (v_spec_IsTiming (x.1.1, x.1.2.1, x.1.2.2))) = true → True) ∧ ((bNot (v_spec_IsTiming (x.1.1, x.1.2.1, x.1.2.2))) = false → (ok_spec_l1In (x.2.2.1, 0, 1000000))))) ∧ (((bOr (bNot (v_spec_IsTiming (x.1.1, x.1.2.1, x.1.2.2))) (bNot (v_spec_l1In (x.2.2.1, 0, 1000000)))) = true → True) ∧ ((bOr (bNot (v_spec_IsTiming (x.1.1, x.1.2.1, x.1.2.2))) (bNot (v_spec_l1In (x.2.2.1, 0, 1000000)))) = false → (LoopOk (fun (x0 : (Int × Int)) => (bAnd (iLt x0.2 (lLen x.2.2.2.1)) (bAnd (bNot (bNot (v_spec_IsEvent ((lGet x.2.2.2.1 (iNat x0.2) (0, 0, false)).1, (lGet x.2.2.2.1 (iNat x0.2) (0, 0, false)).2.1, (lGet x.2.2.2.1 (iNat x0.2) (0, 0, false)).2.2)))) (bAnd (bNot (iGe (lGet x.2.2.2.1 (iNat x0.2) (0, 0, false)).1 (iAdd Go.IntKind.i64 x.2.2.1 x.1.1))) (bAnd (bNot (bAnd (iEq (lGet x.2.2.2.1 (iNat x0.2) (0, 0, false)).2.1 x.2.1) (bNot (lGet x.2.2.2.1 (iNat x0.2) (0, 0, false)).2.2))) (bOr (iEq (lGet x.2.2.2.1 (iNat x0.2) (0, 0, false)).2.1 x.2.1) (bAnd (bNot (bAnd (lGet x.2.2.2.1 (iNat x0.2) (0, 0, false)).2.2 (iEq x.1.2.2 1))) (bOr (lGet x.2.2.2.1 (iNat x0.2) (0, 0, false)).2.2 (bNot (bAnd (iEq x.1.2.2 2) (iEq (iAnd Go.IntKind.i64 (iShr Go.IntKind.i64 x0.1 (lGet x.2.2.2.1 (iNat x0.2) (0, 0, false)).2.1) 1) 1))))))))))) (fun (x0 : (Int × Int)) => ((bSel (iEq (lGet x.2.2.2.1 (iNat x0.2) (0, 0, false)).2.1 x.2.1) x0.1 (bSel (lGet x.2.2.2.1 (iNat x0.2) (0, 0, false)).2.2 (iOr Go.IntKind.i64 x0.1 (iShl Go.IntKind.i64 1 (lGet x.2.2.2.1 (iNat x0.2) (0, 0, false)).2.1)) x0.1)), (iAdd Go.IntKind.i64 x0.2 1))) (fun (x0 : (Int × Int)) => (((iLt x0.2 (lLen x.2.2.2.1)) = true → ((((0 : Int) ≤ x0.2) ∧ (x0.2 < (((List.length x.2.2.2.1) : Int)))) ∧ (((iNat x0.2) < (List.length x.2.2.2.1)) ∧ ((ok_spec_IsEvent ((lGet x.2.2.2.1 (iNat x0.2) (0, 0, false)).1, (lGet x.2.2.2.1 (iNat x0.2) (0, 0, false)).2.1, (lGet x.2.2.2.1 (iNat x0.2) (0, 0, false)).2.2)) ∧ (((bNot (v_spec_IsEvent ((lGet x.2.2.2.1 (iNat x0.2) (0, 0, false)).1, (lGet x.2.2.2.1 (iNat x0.2) (0, 0, false)).2.1, (lGet x.2.2.2.1 (iNat x0.2) (0, 0, false)).2.2))) = true → True) ∧ ((bNot (v_spec_IsEvent ((lGet x.2.2.2.1 (iNat x0.2) (0, 0, false)).1, (lGet x.2.2.2.1 (iNat x0.2) (0, 0, false)).2.1, (lGet x.2.2.2.1 (iNat x0.2) (0, 0, false)).2.2))) = false → (((iGe (lGet x.2.2.2.1 (iNat x0.2) (0, 0, false)).1 (iAdd Go.IntKind.i64 x.2.2.1 x.1.1)) = true → True) ∧ ((iGe (lGet x.2.2.2.1 (iNat x0.2) (0, 0, false)).1 (iAdd Go.IntKind.i64 x.2.2.1 x.1.1)) = false → (((bAnd (iEq (lGet x.2.2.2.1 (iNat x0.2) (0, 0, false)).2.1 x.2.1) (bNot (lGet x.2.2.2.1 (iNat x0.2) (0, 0, false)).2.2)) = true → True) ∧ ((bAnd (iEq (lGet x.2.2.2.1 (iNat x0.2) (0, 0, false)).2.1 x.2.1) (bNot (lGet x.2.2.2.1 (iNat x0.2) (0, 0, false)).2.2)) = false → (((iEq (lGet x.2.2.2.1 (iNat x0.2) (0, 0, false)).2.1 x.2.1) = true → True) ∧ ((iEq (lGet x.2.2.2.1 (iNat x0.2) (0, 0, false)).2.1 x.2.1) = false → (((bAnd (lGet x.2.2.2.1 (iNat x0.2) (0, 0, false)).2.2 (iEq x.1.2.2 1)) = true → True) ∧ ((bAnd (lGet x.2.2.2.1 (iNat x0.2) (0, 0, false)).2.2 (iEq x.1.2.2 1)) = false → (((lGet x.2.2.2.1 (iNat x0.2) (0, 0, false)).2.2 = true → ((0 : Int) ≤ (lGet x.2.2.2.1 (iNat x0.2) (0, 0, false)).2.1)) ∧ ((lGet x.2.2.2.1 (iNat x0.2) (0, 0, false)).2.2 = false → (((iEq x.1.2.2 2) = true → ((0 : Int) ≤ (lGet x.2.2.2.1 (iNat x0.2) (0, 0, false)).2.1)) ∧ ((iEq x.1.2.2 2) = false → True)))))))))))))))))) ∧ ((iLt x0.2 (lLen x.2.2.2.1)) = false → True))) (0, 0))))) := (ou_spec_ChoiceOf x).trans (by kernel_rfl)
theorem ve_impl_IsTiming (x : Int × Int × Int) : v_impl_IsTiming x = (bAnd (iGe x.1 1) (bAnd (iLe x.1 1000) (bAnd (iGe x.2.1 0) (bAnd (iLe x.2.1 1000) (bAnd (iGe x.2.2 0) (iLe x.2.2 2)))))) := (vu_impl_IsTiming x).trans (by kernel_rfl)
theorem oe_impl_IsTiming (x : Int × Int × Int) : ok_impl_IsTiming x = True := (ou_impl_IsTiming x).trans (by kernel_rfl)
theorem ve_impl_IsEvent (x : Int × Int × Bool) : v_impl_IsEvent x = (bAnd (iGe x.1 0) (bAnd (iLe x.1 1000000) (bAnd (iGe x.2.1 0) (iLe x.2.1 31)))) := (vu_impl_IsEvent x).trans (by kernel_rfl)
theorem oe_impl_IsEvent (x : Int × Int × Bool) : ok_impl_IsEvent x = True := (ou_impl_IsEvent x).trans (by kernel_rfl)
theorem ve_impl_ChoiceOf (x : (Int × Int × Int) × Int × Int × (List (Int × Int × Bool)) × Int) : v_impl_ChoiceOf x = (bSel (bOr (bNot (v_impl_IsTiming (x.1.1, x.1.2.1, x.1.2.2))) (bOr (iLt x.2.2.1 0) (iGt x.2.2.1 1000000))) (0, 0) (bSel (iLt (loopV (fun (x0 : (Int × Int)) => (bAnd (iLt x0.2 (lLen x.2.2.2.1)) (bAnd (bNot (bNot (v_impl_IsEvent ((lGet x.2.2.2.1 (iNat x0.2) (0, 0, false)).1, (lGet x.2.2.2.1 (iNat x0.2) (0, 0, false)).2.1, (lGet x.2.2.2.1 (iNat x0.2) (0, 0, false)).2.2)))) (bAnd (bNot (iGe (lGet x.2.2.2.1 (iNat x0.2) (0, 0, false)).1 (iAdd Go.IntKind.i64 x.2.2.1 x.1.1))) (bAnd (bNot (bAnd (iEq (lGet x.2.2.2.1 (iNat x0.2) (0, 0, false)).2.1 x.2.1) (bNot (lGet x.2.2.2.1 (iNat x0.2) (0, 0, false)).2.2))) (bOr (iEq (lGet x.2.2.2.1 (iNat x0.2) (0, 0, false)).2.1 x.2.1) (bSel (lGet x.2.2.2.1 (iNat x0.2) (0, 0, false)).2.2 (bNot (iEq x.1.2.2 1)) (bNot (bAnd (iEq x.1.2.2 2) (iEq (v_impl_bit (x0.1, (lGet x.2.2.2.1 (iNat x0.2) (0, 0, false)).2.1)) 1)))))))))) (fun (x0 : (Int × Int)) => ((bSel (iEq (lGet x.2.2.2.1 (iNat x0.2) (0, 0, false)).2.1 x.2.1) x0.1 (bSel (lGet x.2.2.2.1 (iNat x0.2) (0, 0, false)).2.2 (iOr Go.IntKind.i64 x0.1 (iShl Go.IntKind.i64 1 (lGet x.2.2.2.1 (iNat x0.2) (0, 0, false)).2.1)) x0.1)), (iAdd Go.IntKind.i64 x0.2 1))) (0, 0)).2 (lLen x.2.2.2.1)) (bSel (bNot (v_impl_IsEvent ((lGet x.2.2.2.1 (iNat (loopV (fun (x0 : (Int × Int)) => (bAnd (iLt x0.2 (lLen x.2.2.2.1)) (bAnd (bNot (bNot (v_impl_IsEvent ((lGet x.2.2.2.1 (iNat x0.2) (0, 0, false)).1, (lGet x.2.2.2.1 (iNat x0.2) (0, 0, false)).2.1, (lGet x.2.2.2.1 (iNat x0.2) (0, 0, false)).2.2)))) (bAnd (bNot (iGe (lGet x.2.2.2.1 (iNat x0.2) (0, 0, false)).1 (iAdd Go.IntKind.i64 x.2.2.1 x.1.1))) (bAnd (bNot (bAnd (iEq (lGet x.2.2.2.1 (iNat x0.2) (0, 0, false)).2.1 x.2.1) (bNot (lGet x.2.2.2.1 (iNat x0.2) (0, 0, false)).2.2))) (bOr (iEq (lGet x.2.2.2.1 (iNat x0.2) (0, 0, false)).2.1 x.2.1) (bSel (lGet x.2.2.2.1 (iNat x0.2) (0, 0, false)).2.2 (bNot (iEq x.1.2.2 1)) (bNot (bAnd (iEq x.1.2.2 2) (iEq (v_impl_bit (x0.1, (lGet x.2.2.2.1 (iNat x0.2) (0, 0, false)).2.1)) 1)))))))))) (fun (x0 : (Int × Int)) => ((bSel (iEq (lGet x.2.2.2.1 (iNat x0.2) (0, 0, false)).2.1 x.2.1) x0.1 (bSel (lGet x.2.2.2.1 (iNat x0.2) (0, 0, false)).2.2 (iOr Go.IntKind.i64 x0.1 (iShl Go.IntKind.i64 1 (lGet x.2.2.2.1 (iNat x0.2) (0, 0, false)).2.1)) x0.1)), (iAdd Go.IntKind.i64 x0.2 1))) (0, 0)).2) (0, 0, false)).1, (lGet x.2.2.2.1 (iNat (loopV (fun (x0 : (Int × Int)) => (bAnd (iLt x0.2 (lLen x.2.2.2.1)) (bAnd (bNot (bNot (v_impl_IsEvent ((lGet x.2.2.2.1 (iNat x0.2) (0, 0, false)).1, (lGet x.2.2.2.1 (iNat x0.2) (0, 0, false)).2.1, (lGet x.2.2.2.1 (iNat x0.2) (0, 0, false)).2.2)))) (bAnd (bNot (iGe (lGet x.2.2.2.1 (iNat x0.2) (0, 0, false)).1 (iAdd Go.IntKind.i64 x.2.2.1 x.1.1))) (bAnd (bNot (bAnd (iEq (lGet x.2.2.2.1 (iNat x0.2) (0, 0, false)).2.1 x.2.1) (bNot (lGet x.2.2.2.1 (iNat x0.2) (0, 0, false)).2.2))) (bOr (iEq (lGet x.2.2.2.1 (iNat x0.2) (0, 0, false)).2.1 x.2.1) (bSel (lGet x.2.2.2.1 (iNat x0.2) (0, 0, false)).2.2 (bNot (iEq x.1.2.2 1)) (bNot (bAnd (iEq x.1.2.2 2) (iEq (v_impl_bit (x0.1, (lGet x.2.2.2.1 (iNat x0.2) (0, 0, false)).2.1)) 1)))))))))) (fun (x0 : (Int × Int)) => ((bSel (iEq (lGet x.2.2.2.1 (iNat x0.2) (0, 0, false)).2.1 x.2.1) x0.1 (bSel (lGet x.2.2.2.1 (iNat x0.2) (0, 0, false)).2.2 (iOr Go.IntKind.i64 x0.1 (iShl Go.IntKind.i64 1 (lGet x.2.2.2.1 (iNat x0.2) (0, 0, false)).2.1)) x0.1)), (iAdd Go.IntKind.i64 x0.2 1))) (0, 0)).2) (0, 0, false)).2.1, (lGet x.2.2.2.1 (iNat (loopV (fun (x0 : (Int × Int)) => (bAnd (iLt x0.2 (lLen x.2.2.2.1)) (bAnd (bNot (bNot (v_impl_IsEvent ((lGet x.2.2.2.1 (iNat x0.2) (0, 0, false)).1, (lGet x.2.2.2.1 (iNat x0.2) (0, 0, false)).2.1, (lGet x.2.2.2.1 (iNat x0.2) (0, 0, false)).2.2)))) (bAnd (bNot (iGe (lGet x.2.2.2.1 (iNat x0.2) (0, 0, false)).1 (iAdd Go.IntKind.i64 x.2.2.1 x.1.1))) (bAnd (bNot (bAnd (iEq (lGet x.2.2.2.1 (iNat x0.2) (0, 0, false)).2.1 x.2.1) (bNot (lGet x.2.2.2.1 (iNat x0.2) (0, 0, false)).2.2))) (bOr (iEq (lGet x.2.2.2.1 (iNat x0.2) (0, 0, false)).2.1 x.2.1) (bSel (lGet x.2.2.2.1 (iNat x0.2) (0, 0, false)).2.2 (bNot (iEq x.1.2.2 1)) (bNot (bAnd (iEq x.1.2.2 2) (iEq (v_impl_bit (x0.1, (lGet x.2.2.2.1 (iNat x0.2) (0, 0, false)).2.1)) 1)))))))))) (fun (x0 : (Int × Int)) => ((bSel (iEq (lGet x.2.2.2.1 (iNat x0.2) (0, 0, false)).2.1 x.2.1) x0.1 (bSel (lGet x.2.2.2.1 (iNat x0.2) (0, 0, false)).2.2 (iOr Go.IntKind.i64 x0.1 (iShl Go.IntKind.i64 1 (lGet x.2.2.2.1 (iNat x0.2) (0, 0, false)).2.1)) x0.1)), (iAdd Go.IntKind.i64 x0.2 1))) (0, 0)).2) (0, 0, false)).2.2))) (0, 0) (bSel (iGe (lGet x.2.2.2.1 (iNat (loopV (fun (x0 : (Int × Int)) => (bAnd (iLt x0.2 (lLen x.2.2.2.1)) (bAnd (bNot (bNot (v_impl_IsEvent ((lGet x.2.2.2.1 (iNat x0.2) (0, 0, false)).1, (lGet x.2.2.2.1 (iNat x0.2) (0, 0, false)).2.1, (lGet x.2.2.2.1 (iNat x0.2) (0, 0, false)).2.2)))) (bAnd (bNot (iGe (lGet x.2.2.2.1 (iNat x0.2) (0, 0, false)).1 (iAdd Go.IntKind.i64 x.2.2.1 x.1.1))) (bAnd (bNot (bAnd (iEq (lGet x.2.2.2.1 (iNat x0.2) (0, 0, false)).2.1 x.2.1) (bNot (lGet x.2.2.2.1 (iNat x0.2) (0, 0, false)).2.2))) (bOr (iEq (lGet x.2.2.2.1 (iNat x0.2) (0, 0, false)).2.1 x.2.1) (bSel (lGet x.2.2.2.1 (iNat x0.2) (0, 0, false)).2.2 (bNot (iEq x.1.2.2 1)) (bNot (bAnd (iEq x.1.2.2 2) (iEq (v_impl_bit (x0.1, (lGet x.2.2.2.1 (iNat x0.2) (0, 0, false)).2.1)) 1)))))))))) (fun (x0 : (Int × Int)) => ((bSel (iEq (lGet x.2.2.2.1 (iNat x0.2) (0, 0, false)).2.1 x.2.1) x0.1 (bSel (lGet x.2.2.2.1 (iNat x0.2) (0, 0, false)).2.2 (iOr Go.IntKind.i64 x0.1 (iShl Go.IntKind.i64 1 (lGet x.2.2.2.1 (iNat x0.2) (0, 0, false)).2.1)) x0.1)), (iAdd Go.IntKind.i64 x0.2 1))) (0, 0)).2) (0, 0, false)).1 (iAdd Go.IntKind.i64 x.2.2.1 x.1.1)) (2, (iAdd Go.IntKind.i64 x.2.2.1 x.1.1)) (bSel (bAnd (iEq (lGet x.2.2.2.1 (iNat (loopV (fun (x0 : (Int × Int)) => (bAnd (iLt x0.2 (lLen x.2.2.2.1)) (bAnd (bNot (bNot (v_impl_IsEvent ((lGet x.2.2.2.1 (iNat x0.2) (0, 0, false)).1, (lGet x.2.2.2.1 (iNat x0.2) (0, 0, false)).2.1, (lGet x.2.2.2.1 (iNat x0.2) (0, 0, false)).2.2)))) (bAnd (bNot (iGe (lGet x.2.2.2.1 (iNat x0.2) (0, 0, false)).1 (iAdd Go.IntKind.i64 x.2.2.1 x.1.1))) (bAnd (bNot (bAnd (iEq (lGet x.2.2.2.1 (iNat x0.2) (0, 0, false)).2.1 x.2.1) (bNot (lGet x.2.2.2.1 (iNat x0.2) (0, 0, false)).2.2))) (bOr (iEq (lGet x.2.2.2.1 (iNat x0.2) (0, 0, false)).2.1 x.2.1) (bSel (lGet x.2.2.2.1 (iNat x0.2) (0, 0, false)).2.2 (bNot (iEq x.1.2.2 1)) (bNot (bAnd (iEq x.1.2.2 2) (iEq (v_impl_bit (x0.1, (lGet x.2.2.2.1 (iNat x0.2) (0, 0, false)).2.1)) 1)))))))))) (fun (x0 : (Int × Int)) => ((bSel (iEq (lGet x.2.2.2.1 (iNat x0.2) (0, 0, false)).2.1 x.2.1) x0.1 (bSel (lGet x.2.2.2.1 (iNat x0.2) (0, 0, false)).2.2 (iOr Go.IntKind.i64 x0.1 (iShl Go.IntKind.i64 1 (lGet x.2.2.2.1 (iNat x0.2) (0, 0, false)).2.1)) x0.1)), (iAdd Go.IntKind.i64 x0.2 1))) (0, 0)).2) (0, 0, false)).2.1 x.2.1) (bNot (lGet x.2.2.2.1 (iNat (loopV (fun (x0 : (Int × Int)) => (bAnd (iLt x0.2 (lLen x.2.2.2.1)) (bAnd (bNot (bNot (v_impl_IsEvent ((lGet x.2.2.2.1 (iNat x0.2) (0, 0, false)).1, (lGet x.2.2.2.1 (iNat x0.2) (0, 0, false)).2.1, (lGet x.2.2.2.1 (iNat x0.2) (0, 0, false)).2.2)))) (bAnd (bNot (iGe (lGet x.2.2.2.1 (iNat x0.2) (0, 0, false)).1 (iAdd Go.IntKind.i64 x.2.2.1 x.1.1))) (bAnd (bNot (bAnd (iEq (lGet x.2.2.2.1 (iNat x0.2) (0, 0, false)).2.1 x.2.1) (bNot (lGet x.2.2.2.1 (iNat x0.2) (0, 0, false)).2.2))) (bOr (iEq (lGet x.2.2.2.1 (iNat x0.2) (0, 0, false)).2.1 x.2.1) (bSel (lGet x.2.2.2.1 (iNat x0.2) (0, 0, false)).2.2 (bNot (iEq x.1.2.2 1)) (bNot (bAnd (iEq x.1.2.2 2) (iEq (v_impl_bit (x0.1, (lGet x.2.2.2.1 (iNat x0.2) (0, 0, false)).2.1)) 1)))))))))) (fun (x0 : (Int × Int)) => ((bSel (iEq (lGet x.2.2.2.1 (iNat x0.2) (0, 0, false)).2.1 x.2.1) x0.1 (bSel (lGet x.2.2.2.1 (iNat x0.2) (0, 0, false)).2.2 (iOr Go.IntKind.i64 x0.1 (iShl Go.IntKind.i64 1 (lGet x.2.2.2.1 (iNat x0.2) (0, 0, false)).2.1)) x0.1)), (iAdd Go.IntKind.i64 x0.2 1))) (0, 0)).2) (0, 0, false)).2.2)) (1, (lGet x.2.2.2.1 (iNat (loopV (fun (x0 : (Int × Int)) => (bAnd (iLt x0.2 (lLen x.2.2.2.1)) (bAnd (bNot (bNot (v_impl_IsEvent ((lGet x.2.2.2.1 (iNat x0.2) (0, 0, false)).1, (lGet x.2.2.2.1 (iNat x0.2) (0, 0, false)).2.1, (lGet x.2.2.2.1 (iNat x0.2) (0, 0, false)).2.2)))) (bAnd (bNot (iGe (lGet x.2.2.2.1 (iNat x0.2) (0, 0, false)).1 (iAdd Go.IntKind.i64 x.2.2.1 x.1.1))) (bAnd (bNot (bAnd (iEq (lGet x.2.2.2.1 (iNat x0.2) (0, 0, false)).2.1 x.2.1) (bNot (lGet x.2.2.2.1 (iNat x0.2) (0, 0, false)).2.2))) (bOr (iEq (lGet x.2.2.2.1 (iNat x0.2) (0, 0, false)).2.1 x.2.1) (bSel (lGet x.2.2.2.1 (iNat x0.2) (0, 0, false)).2.2 (bNot (iEq x.1.2.2 1)) (bNot (bAnd (iEq x.1.2.2 2) (iEq (v_impl_bit (x0.1, (lGet x.2.2.2.1 (iNat x0.2) (0, 0, false)).2.1)) 1)))))))))) (fun (x0 : (Int × Int)) => ((bSel (iEq (lGet x.2.2.2.1 (iNat x0.2) (0, 0, false)).2.1 x.2.1) x0.1 (bSel (lGet x.2.2.2.1 (iNat x0.2) (0, 0, false)).2.2 (iOr Go.IntKind.i64 x0.1 (iShl Go.IntKind.i64 1 (lGet x.2.2.2.1 (iNat x0.2) (0, 0, false)).2.1)) x0.1)), (iAdd Go.IntKind.i64 x0.2 1))) (0, 0)).2) (0, 0, false)).1) (bSel (lGet x.2.2.2.1 (iNat (loopV (fun (x0 : (Int × Int)) => (bAnd (iLt x0.2 (lLen x.2.2.2.1)) (bAnd (bNot (bNot (v_impl_IsEvent ((lGet x.2.2.2.1 (iNat x0.2) (0, 0, false)).1, (lGet x.2.2.2.1 (iNat x0.2) (0, 0, false)).2.1, (lGet x.2.2.2.1 (iNat x0.2) (0, 0, false)).2.2)))) (bAnd (bNot (iGe (lGet x.2.2.2.1 (iNat x0.2) (0, 0, false)).1 (iAdd Go.IntKind.i64 x.2.2.1 x.1.1))) (bAnd (bNot (bAnd (iEq (lGet x.2.2.2.1 (iNat x0.2) (0, 0, false)).2.1 x.2.1) (bNot (lGet x.2.2.2.1 (iNat x0.2) (0, 0, false)).2.2))) (bOr (iEq (lGet x.2.2.2.1 (iNat x0.2) (0, 0, false)).2.1 x.2.1) (bSel (lGet x.2.2.2.1 (iNat x0.2) (0, 0, false)).2.2 (bNot (iEq x.1.2.2 1)) (bNot (bAnd (iEq x.1.2.2 2) (iEq (v_impl_bit (x0.1, (lGet x.2.2.2.1 (iNat x0.2) (0, 0, false)).2.1)) 1)))))))))) (fun (x0 : (Int × Int)) => ((bSel (iEq (lGet x.2.2.2.1 (iNat x0.2) (0, 0, false)).2.1 x.2.1) x0.1 (bSel (lGet x.2.2.2.1 (iNat x0.2) (0, 0, false)).2.2 (iOr Go.IntKind.i64 x0.1 (iShl Go.IntKind.i64 1 (lGet x.2.2.2.1 (iNat x0.2) (0, 0, false)).2.1)) x0.1)), (iAdd Go.IntKind.i64 x0.2 1))) (0, 0)).2) (0, 0, false)).2.2 (2, (lGet x.2.2.2.1 (iNat (loopV (fun (x0 : (Int × Int)) => (bAnd (iLt x0.2 (lLen x.2.2.2.1)) (bAnd (bNot (bNot (v_impl_IsEvent ((lGet x.2.2.2.1 (iNat x0.2) (0, 0, false)).1, (lGet x.2.2.2.1 (iNat x0.2) (0, 0, false)).2.1, (lGet x.2.2.2.1 (iNat x0.2) (0, 0, false)).2.2)))) (bAnd (bNot (iGe (lGet x.2.2.2.1 (iNat x0.2) (0, 0, false)).1 (iAdd Go.IntKind.i64 x.2.2.1 x.1.1))) (bAnd (bNot (bAnd (iEq (lGet x.2.2.2.1 (iNat x0.2) (0, 0, false)).2.1 x.2.1) (bNot (lGet x.2.2.2.1 (iNat x0.2) (0, 0, false)).2.2))) (bOr (iEq (lGet x.2.2.2.1 (iNat x0.2) (0, 0, false)).2.1 x.2.1) (bSel (lGet x.2.2.2.1 (iNat x0.2) (0, 0, false)).2.2 (bNot (iEq x.1.2.2 1)) (bNot (bAnd (iEq x.1.2.2 2) (iEq (v_impl_bit (x0.1, (lGet x.2.2.2.1 (iNat x0.2) (0, 0, false)).2.1)) 1)))))))))) (fun (x0 : (Int × Int)) => ((bSel (iEq (lGet x.2.2.2.1 (iNat x0.2) (0, 0, false)).2.1 x.2.1) x0.1 (bSel (lGet x.2.2.2.1 (iNat x0.2) (0, 0, false)).2.2 (iOr Go.IntKind.i64 x0.1 (iShl Go.IntKind.i64 1 (lGet x.2.2.2.1 (iNat x0.2) (0, 0, false)).2.1)) x0.1)), (iAdd Go.IntKind.i64 x0.2 1))) (0, 0)).2) (0, 0, false)).1) (2, (lGet x.2.2.2.1 (iNat (loopV (fun (x0 : (Int × Int)) => (bAnd (iLt x0.2 (lLen x.2.2.2.1)) (bAnd (bNot (bNot (v_impl_IsEvent ((lGet x.2.2.2.1 (iNat x0.2) (0, 0, false)).1, (lGet x.2.2.2.1 (iNat x0.2) (0, 0, false)).2.1, (lGet x.2.2.2.1 (iNat x0.2) (0, 0, false)).2.2)))) (bAnd (bNot (iGe (lGet x.2.2.2.1 (iNat x0.2) (0, 0, false)).1 (iAdd Go.IntKind.i64 x.2.2.1 x.1.1))) (bAnd (bNot (bAnd (iEq (lGet x.2.2.2.1 (iNat x0.2) (0, 0, false)).2.1 x.2.1) (bNot (lGet x.2.2.2.1 (iNat x0.2) (0, 0, false)).2.2))) (bOr (iEq (lGet x.2.2.2.1 (iNat x0.2) (0, 0, false)).2.1 x.2.1) (bSel (lGet x.2.2.2.1 (iNat x0.2) (0, 0, false)).2.2 (bNot (iEq x.1.2.2 1)) (bNot (bAnd (iEq x.1.2.2 2) (iEq (v_impl_bit (x0.1, (lGet x.2.2.2.1 (iNat x0.2) (0, 0, false)).2.1)) 1)))))))))) (fun (x0 : (Int × Int)) => ((bSel (iEq (lGet x.2.2.2.1 (iNat x0.2) (0, 0, false)).2.1 x.2.1) x0.1 (bSel (lGet x.2.2.2.1 (iNat x0.2) (0, 0, false)).2.2 (iOr Go.IntKind.i64 x0.1 (iShl Go.IntKind.i64 1 (lGet x.2.2.2.1 (iNat x0.2) (0, 0, false)).2.1)) x0.1)), (iAdd Go.IntKind.i64 x0.2 1))) (0, 0)).2) (0, 0, false)).1))))) (bSel (iGe x.2.2.2.2 (iAdd Go.IntKind.i64 x.2.2.1 x.1.1)) (2, (iAdd Go.IntKind.i64 x.2.2.1 x.1.1)) (0, 0)))) := (vu_impl_ChoiceOf x).trans (by kernel_rfl)
theorem oe_impl_ChoiceOf (x : (Int × Int × Int) × Int × Int × (List (Int × Int × Bool)) × Int) : ok_impl_ChoiceOf x = ((ok_impl_IsTiming (x.1.1, x.1.2.1, x.1.2.2)) ∧ (((bOr (bNot (v_impl_IsTiming (x.1.1, x.1.2.1, x.1.2.2))) (bOr (iLt x.2.2.1 0) (iGt x.2.2.1 1000000))) = true → True) ∧ ((bOr (bNot (v_impl_IsTiming (x.1.1, x.1.2.1, x.1.2.2))) (bOr (iLt x.2.2.1 0) (iGt x.2.2.1 1000000))) = false → (LoopOk (fun (x0 : (Int × Int)) => (bAnd (iLt x0.2 (lLen x.2.2.2.1)) (bAnd (bNot (bNot (v_impl_IsEvent ((lGet x.2.2.2.1 (iNat x0.2) (0, 0, false)).1, (lGet x.2.2.2.1 (iNat x0.2) (0, 0, false)).2.1, (lGet x.2.2.2.1 (iNat x0.2) (0, 0, false)).2.2)))) (bAnd (bNot (iGe (lGet x.2.2.2.1 (iNat x0.2) (0, 0, false)).1 (iAdd Go.IntKind.i64 x.2.2.1 x.1.1))) (bAnd (bNot (bAnd (iEq (lGet x.2.2.2.1 (iNat x0.2) (0, 0, false)).2.1 x.2.1) (bNot (lGet x.2.2.2.1 (iNat x0.2) (0, 0, false)).2.2))) (bOr (iEq (lGet x.2.2.2.1 (iNat x0.2) (0, 0, false)).2.1 x.2.1) (bSel (lGet x.2.2.2.1 (iNat x0.2) (0, 0, false)).2.2 (bNot (iEq x.1.2.2 1)) (bNot (bAnd (iEq x.1.2.2 2) (iEq (v_impl_bit (x0.1, (lGet x.2.2.2.1 (iNat x0.2) (0, 0, false)).2.1)) 1)))))))))) (fun (x0 : (Int × Int)) => ((bSel (iEq (lGet x.2.2.2.1 (iNat x0.2) (0, 0, false)).2.1 x.2.1) x0.1 (bSel (lGet x.2.2.2.1 (iNat x0.2) (0, 0, false)).2.2 (iOr Go.IntKind.i64 x0.1 (iShl Go.IntKind.i64 1 (lGet x.2.2.2.1 (iNat x0.2) (0, 0, false)).2.1)) x0.1)), (iAdd Go.IntKind.i64 x0.2 1))) (fun (x0 : (Int × Int)) => (((iLt x0.2 (lLen x.2.2.2.1)) = true → ((((0 : Int) ≤ x0.2) ∧ (x0.2 < (((List.length x.2.2.2.1) : Int)))) ∧ (((iNat x0.2) < (List.length x.2.2.2.1)) ∧ ((ok_impl_IsEvent ((lGet x.2.2.2.1 (iNat x0.2) (0, 0, false)).1, (lGet x.2.2.2.1 (iNat x0.2) (0, 0, false)).2.1, (lGet x.2.2.2.1 (iNat x0.2) (0, 0, false)).2.2)) ∧ (((bNot (v_impl_IsEvent ((lGet x.2.2.2.1 (iNat x0.2) (0, 0, false)).1, (lGet x.2.2.2.1 (iNat x0.2) (0, 0, false)).2.1, (lGet x.2.2.2.1 (iNat x0.2) (0, 0, false)).2.2))) = true → True) ∧ ((bNot (v_impl_IsEvent ((lGet x.2.2.2.1 (iNat x0.2) (0, 0, false)).1, (lGet x.2.2.2.1 (iNat x0.2) (0, 0, false)).2.1, (lGet x.2.2.2.1 (iNat x0.2) (0, 0, false)).2.2))) = false → (((iGe (lGet x.2.2.2.1 (iNat x0.2) (0, 0, false)).1 (iAdd Go.IntKind.i64 x.2.2.1 x.1.1)) = true → True) ∧ ((iGe (lGet x.2.2.2.1 (iNat x0.2) (0, 0, false)).1 (iAdd Go.IntKind.i64 x.2.2.1 x.1.1)) = false → (((bAnd (iEq (lGet x.2.2.2.1 (iNat x0.2) (0, 0, false)).2.1 x.2.1) (bNot (lGet x.2.2.2.1 (iNat x0.2) (0, 0, false)).2.2)) = true → True) ∧ ((bAnd (iEq (lGet x.2.2.2.1 (iNat x0.2) (0, 0, false)).2.1 x.2.1) (bNot (lGet x.2.2.2.1 (iNat x0.2) (0, 0, false)).2.2)) = false → (((iEq (lGet x.2.2.2.1 (iNat x0.2) (0, 0, false)).2.1 x.2.1) = true → True) ∧ ((iEq (lGet x.2.2.2.1 (iNat x0.2) (0, 0, false)).2.1 x.2.1) = false → (((lGet x.2.2.2.1 (iNat x0.2) (0, 0, false)).2.2 = true → (((iEq x.1.2.2 1) = true → True) ∧ ((iEq x.1.2.2 1) = false → ((0 : Int) ≤ (lGet x.2.2.2.1 (iNat x0.2) (0, 0, false)).2.1)))) ∧ ((lGet x.2.2.2.1 (iNat x0.2) (0, 0, false)).2.2 = false → (((iEq x.1.2.2 2) = true → (ok_impl_bit (x0.1, (lGet x.2.2.2.1 (iNat x0.2) (0, 0, false)).2.1))) ∧ ((iEq x.1.2.2 2) = false → True)))))))))))))))) ∧ ((iLt x0.2 (lLen x.2.2.2.1)) = false → True))) (0, 0))))) := (ou_impl_ChoiceOf x).trans (by kernel_rfl)
end
theorem isTiming_eq (x : Int × Int × Int) : v_spec_IsTiming x = v_impl_IsTiming x := by
  rw [ve_spec_IsTiming, ve_impl_IsTiming]; simp only [ve_spec_l1In, bAnd_eq, Bool.and_assoc]
theorem isEvent_eq (x : Int × Int × Bool) : v_spec_IsEvent x = v_impl_IsEvent x := by
  rw [ve_spec_IsEvent, ve_impl_IsEvent]; simp only [ve_spec_l1In, bAnd_eq, Bool.and_assoc]
theorem ok_isTiming (x : Int × Int × Int) : ok_spec_IsTiming x ∧ ok_impl_IsTiming x := by
  rw [oe_spec_IsTiming, oe_impl_IsTiming]; simp [oe_spec_l1In]
theorem ok_isEvent (x : Int × Int × Bool) : ok_spec_IsEvent x ∧ ok_impl_IsEvent x := by
  rw [oe_spec_IsEvent, oe_impl_IsEvent]; simp [oe_spec_l1In]
theorem isEvent_key {x : Int × Int × Bool} (h : v_impl_IsEvent x = true) : 0 ≤ x.2.1 := by
  rw [ve_impl_IsEvent] at h
  simp only [bAnd_eq, iGe_eq, iLe_eq, Bool.and_eq_true, decide_eq_true_eq] at h
  exact h.2.2.1
theorem cho_rule (d p q : Bool) : bAnd (bNot (bAnd d p)) (bOr d q) = bSel d (bNot p) q := by
  simp only [bAnd_eq, bNot_eq, bOr_eq, bSel_eq]; cases d <;> cases p <;> cases q <;> rfl
theorem sel_same {α : Type} (c : Bool) (x : α) : bSel c x x = x := by rw [bSel_eq]; split <;> rfl
theorem in_range (t : Int) : bNot (v_spec_l1In (t, 0, 1000000)) = bOr (iLt t 0) (iGt t 1000000) := by
  rw [ve_spec_l1In]; simp only [bAnd_eq, bNot_eq, bOr_eq, iGe_eq, iLe_eq, iLt_eq, iGt_eq, Bool.not_and, ← decide_not, Int.not_le]
theorem choiceOf_eq (x : (Int × Int × Int) × Int × Int × (List (Int × Int × Bool)) × Int) : v_spec_ChoiceOf x = v_impl_ChoiceOf x := by
  rw [ve_spec_ChoiceOf, ve_impl_ChoiceOf]
  simp only [isEvent_eq, isTiming_eq, ve_impl_bit, cho_rule, sel_same, in_range]
theorem ok_choiceOf (x : (Int × Int × Int) × Int × Int × (List (Int × Int × Bool)) × Int) (h : x.2.2.2.1.length ≤ 1048576) : ok_spec_ChoiceOf x ∧ ok_impl_ChoiceOf x := by
  rw [oe_spec_ChoiceOf, oe_impl_ChoiceOf]
  have lp : ∀ {c : Int × Int → Bool} {f : Int × Int → Int × Int} {p : Int × Int → Prop}, (∀ st, c st = true → st.2 < x.2.2.2.1.length) → (∀ st, (f st).2 = iAdd .i64 st.2 1) → (∀ st : Int × Int, 0 ≤ st.2 → st.2 ≤ x.2.2.2.1.length → p st) → LoopOk c f p (0, 0) := fun hc hf hp =>
    cnt_ok (fun st => st.2) x.2.2.2.1.length (by omega) (fun st _ _ h => hc st h) hf hp (by simp) (by simp)
  have cc : ∀ {st : Int} {t : Bool}, bAnd (iLt st (lLen x.2.2.2.1)) t = true → st < x.2.2.2.1.length := fun {st t} h => by
    rw [bAnd_eq, iLt_eq, lLen_eq, Bool.and_eq_true, decide_eq_true_eq] at h; exact h.1
  have pp : ∀ st : Int, 0 ≤ st → iLt st (lLen x.2.2.2.1) = true → (((0 : Int) ≤ st ∧ st < (x.2.2.2.1.length : Int)) ∧ iNat st < x.2.2.2.1.length) := fun st h0 h1 => by
    rw [iLt_eq, lLen_eq, decide_eq_true_eq] at h1
    rw [iNat_eq]; omega
  constructor
  · refine ⟨⟨(ok_isTiming _).1, fun _ => trivial, fun _ => by rw [oe_spec_l1In]; trivial⟩, fun _ => trivial, fun _ => ?_⟩
    refine lp (fun st hc => cc hc) (fun _ => rfl) (fun st h0 h1 => ⟨fun hlt => ?_, fun _ => trivial⟩)
    obtain ⟨p1, p2⟩ := pp st.2 h0 hlt
    refine ⟨p1, p2, (ok_isEvent _).1, fun _ => trivial, fun he => ⟨fun _ => trivial, fun _ => ⟨fun _ => trivial, fun _ => ⟨fun _ => trivial, fun _ => ⟨fun _ => trivial, fun _ => ?_⟩⟩⟩⟩⟩
    rw [bNot_eq, Bool.not_eq_false', isEvent_eq] at he
    have hk := isEvent_key he
    exact ⟨fun _ => hk, fun _ => ⟨fun _ => hk, fun _ => trivial⟩⟩
  · refine ⟨(ok_isTiming _).2, fun _ => trivial, fun _ => ?_⟩
    refine lp (fun st hc => cc hc) (fun _ => rfl) (fun st h0 h1 => ⟨fun hlt => ?_, fun _ => trivial⟩)
    obtain ⟨p1, p2⟩ := pp st.2 h0 hlt
    refine ⟨p1, p2, (ok_isEvent _).2, fun _ => trivial, fun he => ⟨fun _ => trivial, fun _ => ⟨fun _ => trivial, fun _ => ⟨fun _ => trivial, fun _ => ?_⟩⟩⟩⟩
    rw [bNot_eq, Bool.not_eq_false'] at he
    have hk := isEvent_key he
    exact ⟨fun _ => ⟨fun _ => trivial, fun _ => hk⟩, fun _ => ⟨fun _ => by rw [oe_impl_bit]; exact hk, fun _ => trivial⟩⟩
section
set_option maxRecDepth 100000
noncomputable def lc_impl_ChoiceOf_1 (x : (Int × Int × Int) × Int × Int × (List (Int × Int × Bool)) × Int) (x0 : (Int × Int)) : Bool := (bAnd (iLt x0.2 (lLen x.2.2.2.1)) (bAnd (bNot (bNot (v_impl_IsEvent (lGet x.2.2.2.1 (iNat x0.2) (0, 0, false))))) (bAnd (bNot (iGe (lGet x.2.2.2.1 (iNat x0.2) (0, 0, false)).1 (iAdd Go.IntKind.i64 x.2.2.1 x.1.1))) (bAnd (bNot (bAnd (iEq (lGet x.2.2.2.1 (iNat x0.2) (0, 0, false)).2.1 x.2.1) (bNot (lGet x.2.2.2.1 (iNat x0.2) (0, 0, false)).2.2))) (bOr (iEq (lGet x.2.2.2.1 (iNat x0.2) (0, 0, false)).2.1 x.2.1) (bSel (lGet x.2.2.2.1 (iNat x0.2) (0, 0, false)).2.2 (bNot (iEq x.1.2.2 1)) (bNot (bAnd (iEq x.1.2.2 2) (iEq (v_impl_bit (x0.1, (lGet x.2.2.2.1 (iNat x0.2) (0, 0, false)).2.1)) 1)))))))))
noncomputable def lf_impl_ChoiceOf_1 (x : (Int × Int × Int) × Int × Int × (List (Int × Int × Bool)) × Int) (x0 : (Int × Int)) : (Int × Int) := ((bSel (iEq (lGet x.2.2.2.1 (iNat x0.2) (0, 0, false)).2.1 x.2.1) x0.1 (bSel (lGet x.2.2.2.1 (iNat x0.2) (0, 0, false)).2.2 (iOr Go.IntKind.i64 x0.1 (iShl Go.IntKind.i64 1 (lGet x.2.2.2.1 (iNat x0.2) (0, 0, false)).2.1)) x0.1)), (iAdd Go.IntKind.i64 x0.2 1))
theorem vl_impl_ChoiceOf (x : (Int × Int × Int) × Int × Int × (List (Int × Int × Bool)) × Int) : v_impl_ChoiceOf x = (bSel (bOr (bNot (v_impl_IsTiming x.1)) (bOr (iLt x.2.2.1 0) (iGt x.2.2.1 1000000))) (0, 0) (bSel (iLt (loopV (lc_impl_ChoiceOf_1 x) (lf_impl_ChoiceOf_1 x) (0, 0)).2 (lLen x.2.2.2.1)) (bSel (bNot (v_impl_IsEvent (lGet x.2.2.2.1 (iNat (loopV (lc_impl_ChoiceOf_1 x) (lf_impl_ChoiceOf_1 x) (0, 0)).2) (0, 0, false)))) (0, 0) (bSel (iGe (lGet x.2.2.2.1 (iNat (loopV (lc_impl_ChoiceOf_1 x) (lf_impl_ChoiceOf_1 x) (0, 0)).2) (0, 0, false)).1 (iAdd Go.IntKind.i64 x.2.2.1 x.1.1)) (2, (iAdd Go.IntKind.i64 x.2.2.1 x.1.1)) (bSel (bAnd (iEq (lGet x.2.2.2.1 (iNat (loopV (lc_impl_ChoiceOf_1 x) (lf_impl_ChoiceOf_1 x) (0, 0)).2) (0, 0, false)).2.1 x.2.1) (bNot (lGet x.2.2.2.1 (iNat (loopV (lc_impl_ChoiceOf_1 x) (lf_impl_ChoiceOf_1 x) (0, 0)).2) (0, 0, false)).2.2)) (1, (lGet x.2.2.2.1 (iNat (loopV (lc_impl_ChoiceOf_1 x) (lf_impl_ChoiceOf_1 x) (0, 0)).2) (0, 0, false)).1) (bSel (lGet x.2.2.2.1 (iNat (loopV (lc_impl_ChoiceOf_1 x) (lf_impl_ChoiceOf_1 x) (0, 0)).2) (0, 0, false)).2.2 (2, (lGet x.2.2.2.1 (iNat (loopV (lc_impl_ChoiceOf_1 x) (lf_impl_ChoiceOf_1 x) (0, 0)).2) (0, 0, false)).1) (2, (lGet x.2.2.2.1 (iNat (loopV (lc_impl_ChoiceOf_1 x) (lf_impl_ChoiceOf_1 x) (0, 0)).2) (0, 0, false)).1))))) (bSel (iGe x.2.2.2.2 (iAdd Go.IntKind.i64 x.2.2.1 x.1.1)) (2, (iAdd Go.IntKind.i64 x.2.2.1 x.1.1)) (0, 0)))) := (vu_impl_ChoiceOf x).trans (by kernel_rfl)
end
section
set_option maxRecDepth 8000
noncomputable def dc_spec_l1New : DCode :=
  (.seq [0] (.region [oa 0 2 (.mv (.c .undef))])
  (.seq [3, 0] (.region [on 0 5 0,
 oa 1 6 (.len (.t 5)),
 oa 2 7 (.bin .add (.c (.int .i64 10729)) (.t 6)),
 om 3 3 7])
  (.seq [3, 0] (.seq [4, 3, 0] (.region [oi 0 4 0])
  (.block 0 (.loop [0, 3, 4] 1 (.seq [4, 3, 0] (.seq [15, 4, 3, 0] (.region [om 0 8 4,
 on 1 9 0,
 oa 2 10 (.len (.t 9)),
 oa 3 11 (.bin .lss (.t 8) (.t 10)),
 om 4 12 11,
 og 5 13 (.mv (.t 4)) 12 true,
 og 6 14 (.bin .lss (.t 13) (.c (.int .i64 4000))) 12 true,
 oa 7 15 (.pick (.t 12) (.t 14) (.c (.bool false)))])
  (.cond (.t 15) .skip (.exit 0)))
  (.seq [4, 3, 0] (.block 1 (.region [om 0 18 3,
 oa 1 19 (.bin .mul (.t 18) (.c (.int .i64 131))),
 on 2 20 0,
 om 3 21 4,
 oa 4 22 (.indexA 1 (.t 20) (.t 21)),
 oa 5 23 (.loadH none (.t 22)),
 oa 6 24 (.conv .i64 (.t 23)),
 oa 7 25 (.bin .add (.t 19) (.t 24)),
 oa 8 26 (.bin .add (.t 25) (.c (.int .i64 7))),
 oa 9 27 (.bin .and (.t 26) (.c (.int .i64 1073741823))),
 om 10 3 27]))
  (.region [om 0 16 4,
 oa 1 17 (.bin .add (.t 16) (.c (.int .i64 1))),
 om 2 4 17]))))))
  (.seq [2] (.region [om 0 28 0,
 om 1 29 3,
 oa 2 30 (.build [.nils, (.int .i64 0), (.int .i64 0)] [(0, 1, (.t 28)), (2, 1, (.t 29))]),
 oa 3 31 (.boxH 3 (.t 30)),
 om 4 2 31])
  .ret))))
noncomputable def df_spec_l1New : DFun := ⟨1, 32, 0, false, [.tmp 2], dc_spec_l1New⟩
noncomputable def pf_spec_l1New : PFun := df_spec_l1New.er
noncomputable def f_spec_l1New : AFun := pf_spec_l1New.er
@[irreducible] noncomputable def s_spec_l1New : CallSem := funSem f_spec_l1New
@[irreducible] noncomputable def p_spec_l1New : PSem := pfunSem pf_spec_l1New
theorem sp_spec_l1New : SoundP s_spec_l1New p_spec_l1New := by unfold s_spec_l1New p_spec_l1New; exact pfun_sound (f := pf_spec_l1New) trivial
def h_spec_l1New : List HT := [.one .frz (.sl (.one (.int .u8)))]
def c_spec_l1New : List (Ql × CT) := [(.frz, .sl (.one (.int .u8))), (.own, .int .i64), (.own, .int .i64)]
@[irreducible] noncomputable def v_spec_l1New (x : List (Int)) : List (Int) × Int × Int := (shut fun x => fnNV df_spec_l1New h_spec_l1New c_spec_l1New x).1 x
@[irreducible] noncomputable def ok_spec_l1New (x : List (Int)) : Prop := (shut fun x => fnNOk df_spec_l1New h_spec_l1New c_spec_l1New x).1 x
theorem vu_spec_l1New (x : List (Int)) : v_spec_l1New x = fnNV df_spec_l1New h_spec_l1New c_spec_l1New x := by unfold v_spec_l1New; exact congrFun (shut _).2 x
theorem ou_spec_l1New (x : List (Int)) : ok_spec_l1New x = fnNOk df_spec_l1New h_spec_l1New c_spec_l1New x := by unfold ok_spec_l1New; exact congrFun (shut _).2 x
noncomputable def D_spec_l1New : DSemP := DSemOfN h_spec_l1New c_spec_l1New ok_spec_l1New v_spec_l1New
theorem ck_spec_l1New (x : List (Int)) : fnNChk df_spec_l1New h_spec_l1New c_spec_l1New x = true := by kernel_rfl
theorem ob_spec_l1New : AllD df_spec_l1New.body.obs := trivial
theorem st_spec_l1New : fnNSt df_spec_l1New h_spec_l1New c_spec_l1New = true := by kernel_rfl
theorem sd_spec_l1New : SoundDP p_spec_l1New D_spec_l1New := by unfold p_spec_l1New; exact soundDN_of (f := df_spec_l1New) (hs := h_spec_l1New) (cs := c_spec_l1New) ob_spec_l1New st_spec_l1New ck_spec_l1New (fun x h => Eq.mp (ou_spec_l1New x) h) (fun x => (vu_spec_l1New x).symm)
noncomputable def dc_spec_l1Byte : DCode :=
  (.seq [0] (.region [oi 0 2 0])
  (.seq [0] (.region [om 0 4 0,
 om 1 5 0,
 oa 2 6 (.nilck (.t 5)),
 oa 3 7 (.fieldA 2 (.t 6)),
 oa 4 8 (.loadH none (.t 7)),
 oa 5 9 (.bin .mul (.t 8) (.c (.int .i64 6364136223846793005))),
 oa 6 10 (.bin .add (.t 9) (.c (.int .i64 1442695040888963407))),
 oa 7 11 (.nilck (.t 4)),
 oa 8 12 (.fieldA 2 (.t 11)),
 os 9 (.storeH 1 (.t 12) (.t 10))])
  (.seq [3, 0] (.region [om 0 13 0,
 xA 1 14 (.nilck (.t 13)) (rg 1),
 xA 2 15 (.fieldA 2 (.t 14)) (rg 2),
 xA 3 16 (.loadH none (.t 15)) (rg 3),
 xA 4 17 (.bin .shr (.t 16) (.c (.int .u64 33))) (rg 4),
 om 5 18 0,
 xA 6 19 (.nilck (.t 18)) [5],
 xA 7 20 (.fieldA 2 (.t 19)) [5, 6],
 xA 8 21 (.loadH none (.t 20)) [5, 6, 7],
 xA 9 22 (.bin .shr (.t 21) (.c (.int .u64 45))) [5, 6, 7, 8],
 xA 10 23 (.bin .xor (.t 17) (.t 22)) (rg 10),
 xA 11 24 (.bin .and (.t 23) (.c (.int .i64 255))) (rg 11),
 xA 12 3 (.mv (.t 24)) (rg 12)])
  (.seq [3] (.seq [34, 3, 0] (.region [om 0 25 0,
 xA 1 26 (.nilck (.t 25)) (rg 1),
 xA 2 27 (.fieldA 1 (.t 26)) (rg 2),
 xA 3 28 (.loadH none (.t 27)) (rg 3),
 om 4 29 0,
 xA 5 30 (.nilck (.t 29)) [4],
 xA 6 31 (.fieldA 0 (.t 30)) [4, 5],
 xA 7 32 (.loadH none (.t 31)) [4, 5, 6],
 xA 8 33 (.len (.t 32)) [4, 5, 6, 7],
 xA 9 34 (.bin .lss (.t 28) (.t 33)) (rg 9)])
  (.cond (.t 34) (.seq [3, 0] (.region [om 0 35 3,
 om 1 36 0,
 xA 2 37 (.nilck (.t 36)) [1],
 xA 3 38 (.fieldA 0 (.t 37)) [1, 2],
 xA 4 39 (.loadH none (.t 38)) [1, 2, 3],
 om 5 40 0,
 xA 6 41 (.nilck (.t 40)) [5],
 xA 7 42 (.fieldA 1 (.t 41)) [5, 6],
 xA 8 43 (.loadH none (.t 42)) [5, 6, 7],
 xA 9 44 (.indexA 1 (.t 39) (.t 43)) [1, 2, 3, 4, 5, 6, 7, 8],
 xA 10 45 (.loadH none (.t 44)) [1, 2, 3, 4, 5, 6, 7, 8, 9],
 xA 11 46 (.conv .i64 (.t 45)) [1, 2, 3, 4, 5, 6, 7, 8, 9, 10],
 xA 12 47 (.bin .add (.t 35) (.t 46)) (rg 12),
 xA 13 48 (.bin .and (.t 47) (.c (.int .i64 255))) (rg 13),
 xA 14 3 (.mv (.t 48)) (rg 14)])
  (.region [om 0 49 0,
 om 1 50 0,
 oa 2 51 (.nilck (.t 50)),
 oa 3 52 (.fieldA 1 (.t 51)),
 oa 4 53 (.loadH none (.t 52)),
 oa 5 54 (.bin .add (.t 53) (.c (.int .i64 1))),
 oa 6 55 (.nilck (.t 49)),
 oa 7 56 (.fieldA 1 (.t 55)),
 os 8 (.storeH 1 (.t 56) (.t 54))])) .skip))
  (.seq [2] (.region [om 0 57 3,
 om 1 2 57])
  .ret)))))
noncomputable def df_spec_l1Byte : DFun := ⟨1, 58, 0, false, [.tmp 2], dc_spec_l1Byte⟩
noncomputable def pf_spec_l1Byte : PFun := df_spec_l1Byte.er
noncomputable def f_spec_l1Byte : AFun := pf_spec_l1Byte.er
@[irreducible] noncomputable def s_spec_l1Byte : CallSem := funSem f_spec_l1Byte
@[irreducible] noncomputable def p_spec_l1Byte : PSem := pfunSem pf_spec_l1Byte
theorem sp_spec_l1Byte : SoundP s_spec_l1Byte p_spec_l1Byte := by unfold s_spec_l1Byte p_spec_l1Byte; exact pfun_sound (f := pf_spec_l1Byte) trivial
def h_spec_l1Byte : List HT := []
def c_spec_l1Byte : List (Ql × CT) := [(.frz, .sl (.one (.int .u8))), (.own, .int .i64), (.own, .int .i64)]
def q_spec_l1Byte : QT := .one (.one .own (.int .i64))
@[irreducible] noncomputable def v_spec_l1Byte (x : List (Int) × Int × Int) : Int × (Int × Int) := (shut fun x => fnPV df_spec_l1Byte h_spec_l1Byte c_spec_l1Byte q_spec_l1Byte x).1 x
@[irreducible] noncomputable def ok_spec_l1Byte (x : List (Int) × Int × Int) : Prop := (shut fun x => fnPOk df_spec_l1Byte h_spec_l1Byte c_spec_l1Byte q_spec_l1Byte x).1 x
theorem vu_spec_l1Byte (x : List (Int) × Int × Int) : v_spec_l1Byte x = fnPV df_spec_l1Byte h_spec_l1Byte c_spec_l1Byte q_spec_l1Byte x := by unfold v_spec_l1Byte; exact congrFun (shut _).2 x
theorem ou_spec_l1Byte (x : List (Int) × Int × Int) : ok_spec_l1Byte x = fnPOk df_spec_l1Byte h_spec_l1Byte c_spec_l1Byte q_spec_l1Byte x := by unfold ok_spec_l1Byte; exact congrFun (shut _).2 x
noncomputable def D_spec_l1Byte : DSemP := DSemOfP h_spec_l1Byte c_spec_l1Byte q_spec_l1Byte ok_spec_l1Byte v_spec_l1Byte
theorem ck_spec_l1Byte (x : List (Int) × Int × Int) : fnPChk df_spec_l1Byte h_spec_l1Byte c_spec_l1Byte q_spec_l1Byte x = true := by kernel_rfl
theorem ob_spec_l1Byte : AllD df_spec_l1Byte.body.obs := trivial
theorem st_spec_l1Byte : fnPSt df_spec_l1Byte h_spec_l1Byte c_spec_l1Byte = true := by kernel_rfl
theorem sd_spec_l1Byte : SoundDP p_spec_l1Byte D_spec_l1Byte := by unfold p_spec_l1Byte; exact soundDP_of (f := df_spec_l1Byte) (hs := h_spec_l1Byte) (cs := c_spec_l1Byte) (q := q_spec_l1Byte) ob_spec_l1Byte st_spec_l1Byte ck_spec_l1Byte (fun x h => Eq.mp (ou_spec_l1Byte x) h) (fun x => (vu_spec_l1Byte x).symm)
noncomputable def dc_spec_l1Below : DCode :=
  (.seq [1, 0] (.region [oi 0 4 0])
  (.seq [1, 0] (.seq [10, 1, 0] (.region [om 0 9 1,
 oa 1 10 (.bin .leq (.t 9) (.c (.int .i64 0)))])
  (.cond (.t 10) (.seq [4] (.region [oi 0 4 0])
  .ret) .skip))
  (.seq [1, 0] (.seq [12, 1, 0] (.region [om 0 11 1,
 oa 1 12 (.bin .leq (.t 11) (.c (.int .i64 256)))])
  (.cond (.t 12) (.seq [4] (.region [om 0 13 0,
 op 1 14 s_spec_l1Byte p_spec_l1Byte D_spec_l1Byte [(.t 13)],
 om 2 15 1,
 oa 3 16 (.bin .rem (.t 14) (.t 15)),
 om 4 4 16])
  .ret) .skip))
  (.seq [5, 1, 0] (.region [om 0 17 0,
 op 1 18 s_spec_l1Byte p_spec_l1Byte D_spec_l1Byte [(.t 17)],
 om 2 5 18])
  (.seq [6, 5, 1, 0] (.region [om 0 19 0,
 op 1 20 s_spec_l1Byte p_spec_l1Byte D_spec_l1Byte [(.t 19)],
 om 2 6 20])
  (.seq [7, 6, 5, 1, 0] (.region [om 0 21 0,
 op 1 22 s_spec_l1Byte p_spec_l1Byte D_spec_l1Byte [(.t 21)],
 om 2 7 22])
  (.seq [8, 7, 6, 5, 1] (.region [om 0 23 0,
 op 1 24 s_spec_l1Byte p_spec_l1Byte D_spec_l1Byte [(.t 23)],
 om 2 8 24])
  (.seq [4] (.region [om 0 25 5,
 oa 1 26 (.bin .mul (.t 25) (.c (.int .i64 16777216))),
 om 2 27 6,
 oa 3 28 (.bin .mul (.t 27) (.c (.int .i64 65536))),
 oa 4 29 (.bin .add (.t 26) (.t 28)),
 om 5 30 7,
 oa 6 31 (.bin .mul (.t 30) (.c (.int .i64 256))),
 oa 7 32 (.bin .add (.t 29) (.t 31)),
 om 8 33 8,
 oa 9 34 (.bin .add (.t 32) (.t 33)),
 om 10 35 1,
 oa 11 36 (.bin .rem (.t 34) (.t 35)),
 om 12 4 36])
  .ret))))))))
noncomputable def df_spec_l1Below : DFun := ⟨2, 37, 0, false, [.tmp 4], dc_spec_l1Below⟩
noncomputable def pf_spec_l1Below : PFun := df_spec_l1Below.er
noncomputable def f_spec_l1Below : AFun := pf_spec_l1Below.er
@[irreducible] noncomputable def s_spec_l1Below : CallSem := funSem f_spec_l1Below
@[irreducible] noncomputable def p_spec_l1Below : PSem := pfunSem pf_spec_l1Below
theorem sp_spec_l1Below : SoundP s_spec_l1Below p_spec_l1Below := by unfold s_spec_l1Below p_spec_l1Below; exact pfun_sound (f := pf_spec_l1Below) ⟨sp_spec_l1Byte, sp_spec_l1Byte, sp_spec_l1Byte, sp_spec_l1Byte, sp_spec_l1Byte, trivial⟩
def h_spec_l1Below : List HT := [.one .frz (.int .i64)]
def c_spec_l1Below : List (Ql × CT) := [(.frz, .sl (.one (.int .u8))), (.own, .int .i64), (.own, .int .i64)]
def q_spec_l1Below : QT := .one (.one .own (.int .i64))
@[irreducible] noncomputable def v_spec_l1Below (x : (List (Int) × Int × Int) × Int) : Int × (Int × Int) := (shut fun x => fnPV df_spec_l1Below h_spec_l1Below c_spec_l1Below q_spec_l1Below x).1 x
@[irreducible] noncomputable def ok_spec_l1Below (x : (List (Int) × Int × Int) × Int) : Prop := (shut fun x => fnPOk df_spec_l1Below h_spec_l1Below c_spec_l1Below q_spec_l1Below x).1 x
theorem vu_spec_l1Below (x : (List (Int) × Int × Int) × Int) : v_spec_l1Below x = fnPV df_spec_l1Below h_spec_l1Below c_spec_l1Below q_spec_l1Below x := by unfold v_spec_l1Below; exact congrFun (shut _).2 x
theorem ou_spec_l1Below (x : (List (Int) × Int × Int) × Int) : ok_spec_l1Below x = fnPOk df_spec_l1Below h_spec_l1Below c_spec_l1Below q_spec_l1Below x := by unfold ok_spec_l1Below; exact congrFun (shut _).2 x
noncomputable def D_spec_l1Below : DSemP := DSemOfP h_spec_l1Below c_spec_l1Below q_spec_l1Below ok_spec_l1Below v_spec_l1Below
theorem ck_spec_l1Below (x : (List (Int) × Int × Int) × Int) : fnPChk df_spec_l1Below h_spec_l1Below c_spec_l1Below q_spec_l1Below x = true := by kernel_rfl
theorem ob_spec_l1Below : AllD df_spec_l1Below.body.obs := ⟨sd_spec_l1Byte, sd_spec_l1Byte, sd_spec_l1Byte, sd_spec_l1Byte, sd_spec_l1Byte, trivial⟩
theorem st_spec_l1Below : fnPSt df_spec_l1Below h_spec_l1Below c_spec_l1Below = true := by kernel_rfl
theorem sd_spec_l1Below : SoundDP p_spec_l1Below D_spec_l1Below := by unfold p_spec_l1Below; exact soundDP_of (f := df_spec_l1Below) (hs := h_spec_l1Below) (cs := c_spec_l1Below) (q := q_spec_l1Below) ob_spec_l1Below st_spec_l1Below ck_spec_l1Below (fun x h => Eq.mp (ou_spec_l1Below x) h) (fun x => (vu_spec_l1Below x).symm)
noncomputable def dc_spec_l1Once : DCode :=
  (.seq [1, 0] (.region [oa 0 4 (.mv (.c (.bool false)))])
  (.seq [4] (.region [om 0 5 0,
 om 1 6 1,
 op 2 7 s_spec_l1Below p_spec_l1Below D_spec_l1Below [(.t 5), (.t 6)],
 oa 3 8 (.bin .eql (.t 7) (.c (.int .i64 0))),
 om 4 4 8])
  .ret))
noncomputable def df_spec_l1Once : DFun := ⟨2, 9, 0, false, [.tmp 4], dc_spec_l1Once⟩
noncomputable def pf_spec_l1Once : PFun := df_spec_l1Once.er
noncomputable def f_spec_l1Once : AFun := pf_spec_l1Once.er
@[irreducible] noncomputable def s_spec_l1Once : CallSem := funSem f_spec_l1Once
@[irreducible] noncomputable def p_spec_l1Once : PSem := pfunSem pf_spec_l1Once
theorem sp_spec_l1Once : SoundP s_spec_l1Once p_spec_l1Once := by unfold s_spec_l1Once p_spec_l1Once; exact pfun_sound (f := pf_spec_l1Once) ⟨sp_spec_l1Below, trivial⟩
def h_spec_l1Once : List HT := [.one .frz (.int .i64)]
def c_spec_l1Once : List (Ql × CT) := [(.frz, .sl (.one (.int .u8))), (.own, .int .i64), (.own, .int .i64)]
def q_spec_l1Once : QT := .one (.one .own (.bool))
@[irreducible] noncomputable def v_spec_l1Once (x : (List (Int) × Int × Int) × Int) : Bool × (Int × Int) := (shut fun x => fnPV df_spec_l1Once h_spec_l1Once c_spec_l1Once q_spec_l1Once x).1 x
@[irreducible] noncomputable def ok_spec_l1Once (x : (List (Int) × Int × Int) × Int) : Prop := (shut fun x => fnPOk df_spec_l1Once h_spec_l1Once c_spec_l1Once q_spec_l1Once x).1 x
theorem vu_spec_l1Once (x : (List (Int) × Int × Int) × Int) : v_spec_l1Once x = fnPV df_spec_l1Once h_spec_l1Once c_spec_l1Once q_spec_l1Once x := by unfold v_spec_l1Once; exact congrFun (shut _).2 x
theorem ou_spec_l1Once (x : (List (Int) × Int × Int) × Int) : ok_spec_l1Once x = fnPOk df_spec_l1Once h_spec_l1Once c_spec_l1Once q_spec_l1Once x := by unfold ok_spec_l1Once; exact congrFun (shut _).2 x
noncomputable def D_spec_l1Once : DSemP := DSemOfP h_spec_l1Once c_spec_l1Once q_spec_l1Once ok_spec_l1Once v_spec_l1Once
theorem ck_spec_l1Once (x : (List (Int) × Int × Int) × Int) : fnPChk df_spec_l1Once h_spec_l1Once c_spec_l1Once q_spec_l1Once x = true := by kernel_rfl
theorem ob_spec_l1Once : AllD df_spec_l1Once.body.obs := ⟨sd_spec_l1Below, trivial⟩
theorem st_spec_l1Once : fnPSt df_spec_l1Once h_spec_l1Once c_spec_l1Once = true := by kernel_rfl
theorem sd_spec_l1Once : SoundDP p_spec_l1Once D_spec_l1Once := by unfold p_spec_l1Once; exact soundDP_of (f := df_spec_l1Once) (hs := h_spec_l1Once) (cs := c_spec_l1Once) (q := q_spec_l1Once) ob_spec_l1Once st_spec_l1Once ck_spec_l1Once (fun x h => Eq.mp (ou_spec_l1Once x) h) (fun x => (vu_spec_l1Once x).symm)
noncomputable def dc_spec_l1PickInt : DCode :=
  (.seq [1, 0] (.region [oi 0 4 0])
  (.seq [4] (.region [on 0 5 1,
 om 1 6 0,
 on 2 7 1,
 oa 3 8 (.len (.t 7)),
 op 4 9 s_spec_l1Below p_spec_l1Below D_spec_l1Below [(.t 6), (.t 8)],
 oa 5 10 (.indexA 1 (.t 5) (.t 9)),
 ob 6 11 (.loadH none (.t 10)),
 om 7 4 11])
  .ret))
noncomputable def df_spec_l1PickInt : DFun := ⟨2, 12, 0, false, [.tmp 4], dc_spec_l1PickInt⟩
noncomputable def pf_spec_l1PickInt : PFun := df_spec_l1PickInt.er
noncomputable def f_spec_l1PickInt : AFun := pf_spec_l1PickInt.er
@[irreducible] noncomputable def s_spec_l1PickInt : CallSem := funSem f_spec_l1PickInt
@[irreducible] noncomputable def p_spec_l1PickInt : PSem := pfunSem pf_spec_l1PickInt
theorem sp_spec_l1PickInt : SoundP s_spec_l1PickInt p_spec_l1PickInt := by unfold s_spec_l1PickInt p_spec_l1PickInt; exact pfun_sound (f := pf_spec_l1PickInt) ⟨sp_spec_l1Below, trivial⟩
def h_spec_l1PickInt : List HT := [.one .frz (.sl (.one (.int .i64)))]
def c_spec_l1PickInt : List (Ql × CT) := [(.frz, .sl (.one (.int .u8))), (.own, .int .i64), (.own, .int .i64)]
def q_spec_l1PickInt : QT := .one (.one .own (.int .i64))
@[irreducible] noncomputable def v_spec_l1PickInt (x : (List (Int) × Int × Int) × List (Int)) : Int × (Int × Int) := (shut fun x => fnPV df_spec_l1PickInt h_spec_l1PickInt c_spec_l1PickInt q_spec_l1PickInt x).1 x
@[irreducible] noncomputable def ok_spec_l1PickInt (x : (List (Int) × Int × Int) × List (Int)) : Prop := (shut fun x => fnPOk df_spec_l1PickInt h_spec_l1PickInt c_spec_l1PickInt q_spec_l1PickInt x).1 x
theorem vu_spec_l1PickInt (x : (List (Int) × Int × Int) × List (Int)) : v_spec_l1PickInt x = fnPV df_spec_l1PickInt h_spec_l1PickInt c_spec_l1PickInt q_spec_l1PickInt x := by unfold v_spec_l1PickInt; exact congrFun (shut _).2 x
theorem ou_spec_l1PickInt (x : (List (Int) × Int × Int) × List (Int)) : ok_spec_l1PickInt x = fnPOk df_spec_l1PickInt h_spec_l1PickInt c_spec_l1PickInt q_spec_l1PickInt x := by unfold ok_spec_l1PickInt; exact congrFun (shut _).2 x
noncomputable def D_spec_l1PickInt : DSemP := DSemOfP h_spec_l1PickInt c_spec_l1PickInt q_spec_l1PickInt ok_spec_l1PickInt v_spec_l1PickInt
theorem ck_spec_l1PickInt (x : (List (Int) × Int × Int) × List (Int)) : fnPChk df_spec_l1PickInt h_spec_l1PickInt c_spec_l1PickInt q_spec_l1PickInt x = true := by kernel_rfl
theorem ob_spec_l1PickInt : AllD df_spec_l1PickInt.body.obs := ⟨sd_spec_l1Below, trivial⟩
theorem st_spec_l1PickInt : fnPSt df_spec_l1PickInt h_spec_l1PickInt c_spec_l1PickInt = true := by kernel_rfl
theorem sd_spec_l1PickInt : SoundDP p_spec_l1PickInt D_spec_l1PickInt := by unfold p_spec_l1PickInt; exact soundDP_of (f := df_spec_l1PickInt) (hs := h_spec_l1PickInt) (cs := c_spec_l1PickInt) (q := q_spec_l1PickInt) ob_spec_l1PickInt st_spec_l1PickInt ck_spec_l1PickInt (fun x h => Eq.mp (ou_spec_l1PickInt x) h) (fun x => (vu_spec_l1PickInt x).symm)
noncomputable def dc_laws_big : DCode :=
  (.seq [0] (.region [oa 0 2 (.mv (.c (.bool false)))])
  (.seq [2] (.region [on 0 3 0,
 oa 1 4 (.len (.t 3)),
 oa 2 5 (.bin .gtr (.t 4) (.c (.int .i64 1048576))),
 om 3 2 5])
  .ret))
noncomputable def df_laws_big : DFun := ⟨1, 6, 0, true, [.tmp 2], dc_laws_big⟩
noncomputable def pf_laws_big : PFun := df_laws_big.er
noncomputable def f_laws_big : AFun := pf_laws_big.er
@[irreducible] noncomputable def s_laws_big : CallSem := funSem f_laws_big
@[irreducible] noncomputable def p_laws_big : PSem := pfunSem pf_laws_big
theorem sp_laws_big : SoundP s_laws_big p_laws_big := by unfold s_laws_big p_laws_big; exact pfun_sound (f := pf_laws_big) trivial
def h_laws_big : List HT := [.one .frz (.sl (.one (.int .u8)))]
def q_laws_big : QT := .one (.one .own (.bool))
@[irreducible] noncomputable def v_laws_big (x : List (Int)) : Bool := (shut fun x => fnV df_laws_big h_laws_big q_laws_big x).1 x
@[irreducible] noncomputable def ok_laws_big (x : List (Int)) : Prop := (shut fun x => fnOk df_laws_big h_laws_big q_laws_big x).1 x
theorem vu_laws_big (x : List (Int)) : v_laws_big x = fnV df_laws_big h_laws_big q_laws_big x := by unfold v_laws_big; exact congrFun (shut _).2 x
theorem ou_laws_big (x : List (Int)) : ok_laws_big x = fnOk df_laws_big h_laws_big q_laws_big x := by unfold ok_laws_big; exact congrFun (shut _).2 x
noncomputable def D_laws_big : DSem := DSemOf h_laws_big q_laws_big ok_laws_big v_laws_big
theorem ck_laws_big (x : List (Int)) : fnChk df_laws_big h_laws_big q_laws_big x = true := by kernel_rfl
theorem ob_laws_big : AllD df_laws_big.body.obs := trivial
theorem st_laws_big : fnSt df_laws_big h_laws_big q_laws_big = true := by kernel_rfl
theorem sd_laws_big : SoundD p_laws_big D_laws_big := by unfold p_laws_big; exact soundD_of (f := df_laws_big) (hs := h_laws_big) (q := q_laws_big) ob_laws_big st_laws_big ck_laws_big (fun x h => Eq.mp (ou_laws_big x) h) (fun x => (vu_laws_big x).symm)
end
section
set_option maxRecDepth 100000
noncomputable def lc_spec_l1New_1 (x : List (Int)) (x0 : (Int × Int)) : Bool := (bAnd (iLt x0.2 (lLen x)) (iLt x0.2 4000))
noncomputable def lf_spec_l1New_1 (x : List (Int)) (x0 : (Int × Int)) : (Int × Int) := ((iAnd Go.IntKind.i64 (iAdd Go.IntKind.i64 (iAdd Go.IntKind.i64 (iMul Go.IntKind.i64 x0.1 131) (iConv Go.IntKind.i64 (lGet x (iNat x0.2) 0))) 7) 1073741823), (iAdd Go.IntKind.i64 x0.2 1))
noncomputable def lp_spec_l1New_1 (x : List (Int)) (x0 : (Int × Int)) : Prop := (((bAnd (iLt x0.2 (lLen x)) (iLt x0.2 4000)) = true → ((((0 : Int) ≤ x0.2) ∧ (x0.2 < (((List.length x) : Int)))) ∧ ((iNat x0.2) < (List.length x)))) ∧ ((bAnd (iLt x0.2 (lLen x)) (iLt x0.2 4000)) = false → True))
theorem ve_spec_l1New (x : List (Int)) : v_spec_l1New x = (x, 0, (loopV (lc_spec_l1New_1 x) (lf_spec_l1New_1 x) ((iAdd Go.IntKind.i64 10729 (lLen x)), 0)).1) := (vu_spec_l1New x).trans (by kernel_rfl)
theorem oe_spec_l1New (x : List (Int)) : ok_spec_l1New x = (LoopOk (lc_spec_l1New_1 x) (lf_spec_l1New_1 x) (lp_spec_l1New_1 x) ((iAdd Go.IntKind.i64 10729 (lLen x)), 0)) := (ou_spec_l1New x).trans (by kernel_rfl)
theorem ve_spec_l1Byte (x : List (Int) × Int × Int) : v_spec_l1Byte x = ((bSel (iLt x.2.1 (lLen x.1)) (iAnd Go.IntKind.i64 (iAdd Go.IntKind.i64 (iAnd Go.IntKind.i64 (iXor Go.IntKind.i64 (iShr Go.IntKind.i64 (iAdd Go.IntKind.i64 (iMul Go.IntKind.i64 x.2.2 6364136223846793005) 1442695040888963407) 33) (iShr Go.IntKind.i64 (iAdd Go.IntKind.i64 (iMul Go.IntKind.i64 x.2.2 6364136223846793005) 1442695040888963407) 45)) 255) (iConv Go.IntKind.i64 (lGet x.1 (iNat x.2.1) 0))) 255) (iAnd Go.IntKind.i64 (iXor Go.IntKind.i64 (iShr Go.IntKind.i64 (iAdd Go.IntKind.i64 (iMul Go.IntKind.i64 x.2.2 6364136223846793005) 1442695040888963407) 33) (iShr Go.IntKind.i64 (iAdd Go.IntKind.i64 (iMul Go.IntKind.i64 x.2.2 6364136223846793005) 1442695040888963407) 45)) 255)), (bSel (iLt x.2.1 (lLen x.1)) (iAdd Go.IntKind.i64 x.2.1 1) x.2.1), (iAdd Go.IntKind.i64 (iMul Go.IntKind.i64 x.2.2 6364136223846793005) 1442695040888963407)) := (vu_spec_l1Byte x).trans (by kernel_rfl)
theorem oe_spec_l1Byte (x : List (Int) × Int × Int) : ok_spec_l1Byte x = (((0 : Int) ≤ 33) ∧ (((0 : Int) ≤ 45) ∧ (((iLt x.2.1 (lLen x.1)) = true → ((((0 : Int) ≤ x.2.1) ∧ (x.2.1 < (((List.length x.1) : Int)))) ∧ ((iNat x.2.1) < (List.length x.1)))) ∧ ((iLt x.2.1 (lLen x.1)) = false → True)))) := (ou_spec_l1Byte x).trans (by kernel_rfl)
theorem ve_spec_l1Below (x : (List (Int) × Int × Int) × Int) : v_spec_l1Below x = (bSel (iLe x.2 0) (0, x.1.2) (bSel (iLe x.2 256) ((iRem (v_spec_l1Byte x.1).1 x.2), (v_spec_l1Byte x.1).2) ((iRem (iAdd Go.IntKind.i64 (iAdd Go.IntKind.i64 (iAdd Go.IntKind.i64 (iMul Go.IntKind.i64 (v_spec_l1Byte x.1).1 16777216) (iMul Go.IntKind.i64 (v_spec_l1Byte (x.1.1, (v_spec_l1Byte x.1).2)).1 65536)) (iMul Go.IntKind.i64 (v_spec_l1Byte (x.1.1, (v_spec_l1Byte (x.1.1, (v_spec_l1Byte x.1).2)).2)).1 256)) (v_spec_l1Byte (x.1.1, (v_spec_l1Byte (x.1.1, (v_spec_l1Byte (x.1.1, (v_spec_l1Byte x.1).2)).2)).2)).1) x.2), (v_spec_l1Byte (x.1.1, (v_spec_l1Byte (x.1.1, (v_spec_l1Byte (x.1.1, (v_spec_l1Byte x.1).2)).2)).2)).2))) := (vu_spec_l1Below x).trans (by kernel_rfl)
theorem oe_spec_l1Below (x : (List (Int) × Int × Int) × Int) : ok_spec_l1Below x = (((iLe x.2 0) = true → True) ∧ ((iLe x.2 0) = false → (((iLe x.2 256) = true → ((ok_spec_l1Byte x.1) ∧ (x.2 ≠ 0))) ∧ ((iLe x.2 256) = false → ((ok_spec_l1Byte x.1) ∧ ((ok_spec_l1Byte (x.1.1, (v_spec_l1Byte x.1).2)) ∧ ((ok_spec_l1Byte (x.1.1, (v_spec_l1Byte (x.1.1, (v_spec_l1Byte x.1).2)).2)) ∧ ((ok_spec_l1Byte (x.1.1, (v_spec_l1Byte (x.1.1, (v_spec_l1Byte (x.1.1, (v_spec_l1Byte x.1).2)).2)).2)) ∧ (x.2 ≠ 0))))))))) := (ou_spec_l1Below x).trans (by kernel_rfl)
theorem ve_spec_l1Once (x : (List (Int) × Int × Int) × Int) : v_spec_l1Once x = ((iEq (v_spec_l1Below x).1 0), (v_spec_l1Below x).2) := (vu_spec_l1Once x).trans (by kernel_rfl)
theorem oe_spec_l1Once (x : (List (Int) × Int × Int) × Int) : ok_spec_l1Once x = (ok_spec_l1Below x) := (ou_spec_l1Once x).trans (by kernel_rfl)
theorem ve_spec_l1PickInt (x : (List (Int) × Int × Int) × List (Int)) : v_spec_l1PickInt x = ((lGet x.2 (iNat (v_spec_l1Below (x.1, (lLen x.2))).1) 0), (v_spec_l1Below (x.1, (lLen x.2))).2) := (vu_spec_l1PickInt x).trans (by kernel_rfl)
theorem oe_spec_l1PickInt (x : (List (Int) × Int × Int) × List (Int)) : ok_spec_l1PickInt x = ((ok_spec_l1Below (x.1, (lLen x.2))) ∧ ((((0 : Int) ≤ (v_spec_l1Below (x.1, (lLen x.2))).1) ∧ ((v_spec_l1Below (x.1, (lLen x.2))).1 < (((List.length x.2) : Int)))) ∧ ((iNat (v_spec_l1Below (x.1, (lLen x.2))).1) < (List.length x.2)))) := (ou_spec_l1PickInt x).trans (by kernel_rfl)
theorem ve_laws_big (x : List (Int)) : v_laws_big x = (iGt (lLen x) 1048576) := (vu_laws_big x).trans (by kernel_rfl)
theorem oe_laws_big (x : List (Int)) : ok_laws_big x = True := (ou_laws_big x).trans (by kernel_rfl)
end
theorem and_i64 {a b : Nat} (ha : a < 9223372036854775808) (hb : b < 9223372036854775808) : iAnd .i64 (a : Int) (b : Int) = ((a &&& b : Nat) : Int) := by
  have e : (BitVec.ofInt 64 (a : Int) &&& BitVec.ofInt 64 (b : Int)).toNat = a &&& b := by
    rw [BitVec.ofInt_natCast, BitVec.ofInt_natCast, BitVec.toNat_and, BitVec.toNat_ofNat, BitVec.toNat_ofNat, Nat.mod_eq_of_lt (by omega), Nat.mod_eq_of_lt (by omega)]
  have h : a &&& b ≤ a := Nat.and_le_left
  rw [iAnd_u]
  show IntKind.i64.wrap ((BitVec.ofInt 64 (a : Int) &&& BitVec.ofInt 64 (b : Int)).toNat : Int) = _
  rw [e]
  exact wrap_i64 (by unfold In64; omega)
theorem shr_i64 (a k : Nat) (h : k ≤ 64) : iShr .i64 (a : Int) (k : Int) = ((a / 2 ^ k : Nat) : Int) := by
  rw [iShr_u]
  show Int.fdiv (a : Int) (2 ^ min (k : Int).toNat 64) = _
  rw [Int.toNat_natCast, Nat.min_eq_left h, Int.fdiv_eq_ediv_of_nonneg _ (by exact_mod_cast Nat.zero_le _)]
  norm_cast
def Bytes (x : List Int) : Prop := ∀ a ∈ x, 0 ≤ a ∧ a < 256
theorem Bytes.get {x : List Int} (h : Bytes x) (i : Nat) : ∃ n : Nat, n < 256 ∧ x.getD i 0 = (n : Int) := by
  by_cases hi : i < x.length
  · obtain ⟨h0, h1⟩ := h _ (getD_mem x i 0 hi)
    exact ⟨(x.getD i 0).toNat, by omega, by omega⟩
  · exact ⟨0, by omega, by rw [List.getD_eq_getElem?_getD, List.getElem?_eq_none (by omega)]; rfl⟩
theorem Bytes.of {x : List Int} (h : CT.wf (.sl (.one (.int .u8))) x) : Bytes x := by
  intro a ha
  have := h.2 a ha
  simp only [RT.wf, CT.wf] at this
  have h : IntKind.u8.min ≤ a ∧ a ≤ IntKind.u8.max := by simpa [Lit.wf] using this
  have e1 : IntKind.u8.min = 0 := by decide
  have e2 : IntKind.u8.max = 255 := by decide
  rw [e1, e2] at h
  omega
def CurOk (c : List Int × Int × Int) : Prop := 0 ≤ c.2.1 ∧ c.2.1 ≤ c.1.length ∧ c.1.length ≤ 1048576
theorem and255 (x : Int) : 0 ≤ iAnd .i64 x 255 ∧ iAnd .i64 x 255 ≤ 255 := by
  rw [iAnd_u]
  have h : (BitVec.ofInt IntKind.i64.bits x &&& BitVec.ofInt IntKind.i64.bits 255).toNat ≤ 255 := by
    rw [BitVec.toNat_and]
    exact Nat.and_le_right
  have : IntKind.i64.wrap ((BitVec.ofInt IntKind.i64.bits x &&& BitVec.ofInt IntKind.i64.bits 255).toNat : Int) = ((BitVec.ofInt IntKind.i64.bits x &&& BitVec.ofInt IntKind.i64.bits 255).toNat : Int) := wrap_i64 (by unfold In64; omega)
  rw [this]; omega
theorem byte_ok (c : List Int × Int × Int) (h : CurOk c) : ok_spec_l1Byte c ∧ 0 ≤ (v_spec_l1Byte c).1 ∧ (v_spec_l1Byte c).1 ≤ 255 ∧ CurOk (c.1, (v_spec_l1Byte c).2) := by
  obtain ⟨h1, h2, h3⟩ := h
  rw [oe_spec_l1Byte, ve_spec_l1Byte]
  simp only [bSel_eq, iLt_eq, lLen_eq, iNat_eq, decide_eq_true_eq, decide_eq_false_iff_not]
  refine ⟨⟨by omega, by omega, fun _ => by omega, fun _ => trivial⟩, ?_, ?_, ?_⟩
  · split
    · exact (and255 _).1
    · exact (and255 _).1
  · split
    · exact (and255 _).2
    · exact (and255 _).2
  · unfold CurOk
    simp only
    split
    · rw [iAdd_i64 (by unfold In64; omega)]; omega
    · omega
theorem below_ok (c : List Int × Int × Int) (n : Int) (h : CurOk c) : ok_spec_l1Below (c, n) ∧ CurOk (c.1, (v_spec_l1Below (c, n)).2) ∧ (n ≤ 0 → (v_spec_l1Below (c, n)).1 = 0) ∧ (0 < n → 0 ≤ (v_spec_l1Below (c, n)).1 ∧ (v_spec_l1Below (c, n)).1 < n) := by
  rw [oe_spec_l1Below, ve_spec_l1Below]
  obtain ⟨a1, a2, a3, a4⟩ := byte_ok c h
  obtain ⟨b1, b2, b3, b4⟩ := byte_ok _ a4
  obtain ⟨c1, c2, c3, c4⟩ := byte_ok _ b4
  obtain ⟨d1, d2, d3, d4⟩ := byte_ok _ c4
  simp only at b1 b2 b3 b4 c1 c2 c3 c4 d1 d2 d3 d4 ⊢
  simp only [bSel_eq, iLe_eq, decide_eq_true_eq, decide_eq_false_iff_not]
  by_cases hn : n ≤ 0
  · simp only [if_pos hn]
    exact ⟨⟨fun _ => trivial, fun h => absurd hn h⟩, h, fun _ => trivial, fun h => by omega⟩
  · simp only [if_neg hn]
    by_cases hm : n ≤ 256
    · simp only [if_pos hm]
      refine ⟨⟨fun h => absurd h hn, fun _ => ⟨fun _ => ⟨a1, by omega⟩, fun h => absurd hm h⟩⟩, a4, fun h => absurd h hn, fun _ => ?_⟩
      rw [iRem_nn a2]
      exact ⟨Int.emod_nonneg _ (by omega), Int.emod_lt_of_pos _ (by omega)⟩
    · simp only [if_neg hm]
      refine ⟨⟨fun h => absurd h hn, fun _ => ⟨fun h => absurd h hm, fun _ => ⟨a1, b1, c1, d1, by omega⟩⟩⟩, d4, fun h => absurd h hn, fun _ => ?_⟩
      generalize (v_spec_l1Byte c).1 = p at a2 a3
      generalize (v_spec_l1Byte (c.1, (v_spec_l1Byte c).2)).1 = q at b2 b3
      generalize (v_spec_l1Byte (c.1, (v_spec_l1Byte (c.1, (v_spec_l1Byte c).2)).2)).1 = r at c2 c3
      generalize (v_spec_l1Byte (c.1, (v_spec_l1Byte (c.1, (v_spec_l1Byte (c.1, (v_spec_l1Byte c).2)).2)).2)).1 = s at d2 d3
      rw [iMul_i64 (a := p) (by unfold In64; omega), iMul_i64 (a := q) (by unfold In64; omega), iMul_i64 (a := r) (by unfold In64; omega), iAdd_i64 (a := p * 16777216) (by unfold In64; omega), iAdd_i64 (a := p * 16777216 + q * 65536) (by unfold In64; omega), iAdd_i64 (a := p * 16777216 + q * 65536 + r * 256) (by unfold In64; omega), iRem_nn (by omega)]
      exact ⟨Int.emod_nonneg _ (by omega), Int.emod_lt_of_pos _ (by omega)⟩
theorem once_ok (c : List Int × Int × Int) (n : Int) (h : CurOk c) : ok_spec_l1Once (c, n) ∧ CurOk (c.1, (v_spec_l1Once (c, n)).2) := by
  obtain ⟨a1, a2, _⟩ := below_ok c n h
  rw [oe_spec_l1Once, ve_spec_l1Once]
  exact ⟨a1, a2⟩
theorem pick_ok (c : List Int × Int × Int) (l : List Int) (hl : 0 < l.length) (h : CurOk c) : ok_spec_l1PickInt (c, l) ∧ CurOk (c.1, (v_spec_l1PickInt (c, l)).2) ∧ (v_spec_l1PickInt (c, l)).1 ∈ l := by
  obtain ⟨a1, a2, _, a4⟩ := below_ok c (lLen l) h
  rw [oe_spec_l1PickInt, ve_spec_l1PickInt]
  have a4 := a4 (by rw [lLen_eq]; omega)
  simp only
  generalize (v_spec_l1Below (c, lLen l)).1 = i at a4 ⊢
  rw [lLen_eq] at a4
  refine ⟨⟨a1, a4, by rw [iNat_eq]; omega⟩, a2, ?_⟩
  rw [lGet_eq, iNat_eq]
  exact getD_mem l _ _ (by omega)
theorem new_ok (x : List Int) (h : x.length ≤ 1048576) : ok_spec_l1New x ∧ CurOk (v_spec_l1New x) ∧ (v_spec_l1New x).1 = x := by
  rw [oe_spec_l1New, ve_spec_l1New]
  refine ⟨?_, ⟨by simp, by simp, h⟩, rfl⟩
  refine cnt_ok (fun st => st.2) x.length (by omega) (fun st _ _ hc => ?_) (fun _ => rfl) (fun st h0 h1 => ?_) (by simp) (by simp)
  · unfold lc_spec_l1New_1 at hc
    simp only [bAnd_eq, iLt_eq, lLen_eq, Bool.and_eq_true, decide_eq_true_eq] at hc
    exact hc.1
  · unfold lp_spec_l1New_1
    refine ⟨fun hc => ?_, fun _ => trivial⟩
    simp only [bAnd_eq, iLt_eq, lLen_eq, Bool.and_eq_true, decide_eq_true_eq] at hc
    rw [iNat_eq]; omega
theorem big_eq (x : List Int) : v_laws_big x = decide (1048576 < x.length) ∧ ok_laws_big x := by
  rw [ve_laws_big, oe_laws_big]
  refine ⟨?_, trivial⟩
  rw [iGt_eq, lLen_eq]
  congr 1
  exact propext (by omega)
section
set_option maxRecDepth 8000
noncomputable def dc_spec_l10Timing : DCode :=
  (.seq [2, 0] (.region [oa 0 2 (.allocB 0 [(.int .i64 0), (.int .i64 0), (.int .i64 0)])])
  (.seq [2] (.region [om 0 3 0,
 op 1 4 s_spec_l1Below p_spec_l1Below D_spec_l1Below [(.t 3), (.c (.int .i64 9))],
 oa 2 5 (.bin .add (.c (.int .i64 1)) (.t 4)),
 om 3 6 0,
 ⟨4, some 7, .a false (.litSlice 1 4 [(.int .i64 0), (.int .i64 0), (.int .i64 0), (.int .i64 0)] [(0, 1, (.c (.int .i64 0))), (1, 1, (.c (.int .i64 0))), (2, 1, (.c (.int .i64 3))), (3, 1, (.c (.int .i64 6)))]) (some (.one (.int .i64))), none, []⟩,
 ⟨5, some 8, .callp true s_spec_l1PickInt p_spec_l1PickInt D_spec_l1PickInt [(.t 6), (.t 7)], none, []⟩,
 om 6 9 0,
 op 7 10 s_spec_l1Below p_spec_l1Below D_spec_l1Below [(.t 9), (.c (.int .i64 3))],
 oa 8 11 (.build [(.int .i64 0), (.int .i64 0), (.int .i64 0)] [(0, 1, (.t 5)), (1, 1, (.t 8)), (2, 1, (.t 10))]),
 os 9 (.storeB 0 3 (.t 2) (.t 11))])
  .ret))
noncomputable def df_spec_l10Timing : DFun := ⟨1, 12, 1, false, [.cell 2 (some 3)], dc_spec_l10Timing⟩
noncomputable def pf_spec_l10Timing : PFun := df_spec_l10Timing.er
noncomputable def f_spec_l10Timing : AFun := pf_spec_l10Timing.er
@[irreducible] noncomputable def s_spec_l10Timing : CallSem := funSem f_spec_l10Timing
@[irreducible] noncomputable def p_spec_l10Timing : PSem := pfunSem pf_spec_l10Timing
theorem sp_spec_l10Timing : SoundP s_spec_l10Timing p_spec_l10Timing := by unfold s_spec_l10Timing p_spec_l10Timing; exact pfun_sound (f := pf_spec_l10Timing) ⟨sp_spec_l1Below, sp_spec_l1PickInt, sp_spec_l1Below, trivial⟩
def h_spec_l10Timing : List HT := []
def c_spec_l10Timing : List (Ql × CT) := [(.frz, .sl (.one (.int .u8))), (.own, .int .i64), (.own, .int .i64)]
def q_spec_l10Timing : QT := .one (.agg [(.own, .int .i64), (.own, .int .i64), (.own, .int .i64)])
@[irreducible] noncomputable def v_spec_l10Timing (x : List (Int) × Int × Int) : (Int × Int × Int) × (Int × Int) := (shut fun x => fnPV df_spec_l10Timing h_spec_l10Timing c_spec_l10Timing q_spec_l10Timing x).1 x
@[irreducible] noncomputable def ok_spec_l10Timing (x : List (Int) × Int × Int) : Prop := (shut fun x => fnPOk df_spec_l10Timing h_spec_l10Timing c_spec_l10Timing q_spec_l10Timing x).1 x
theorem vu_spec_l10Timing (x : List (Int) × Int × Int) : v_spec_l10Timing x = fnPV df_spec_l10Timing h_spec_l10Timing c_spec_l10Timing q_spec_l10Timing x := by unfold v_spec_l10Timing; exact congrFun (shut _).2 x
theorem ou_spec_l10Timing (x : List (Int) × Int × Int) : ok_spec_l10Timing x = fnPOk df_spec_l10Timing h_spec_l10Timing c_spec_l10Timing q_spec_l10Timing x := by unfold ok_spec_l10Timing; exact congrFun (shut _).2 x
noncomputable def D_spec_l10Timing : DSemP := DSemOfP h_spec_l10Timing c_spec_l10Timing q_spec_l10Timing ok_spec_l10Timing v_spec_l10Timing
theorem ck_spec_l10Timing (x : List (Int) × Int × Int) : fnPChk df_spec_l10Timing h_spec_l10Timing c_spec_l10Timing q_spec_l10Timing x = true := by kernel_rfl
theorem ob_spec_l10Timing : AllD df_spec_l10Timing.body.obs := ⟨sd_spec_l1Below, sd_spec_l1PickInt, sd_spec_l1Below, trivial⟩
theorem st_spec_l10Timing : fnPSt df_spec_l10Timing h_spec_l10Timing c_spec_l10Timing = true := by kernel_rfl
theorem sd_spec_l10Timing : SoundDP p_spec_l10Timing D_spec_l10Timing := by unfold p_spec_l10Timing; exact soundDP_of (f := df_spec_l10Timing) (hs := h_spec_l10Timing) (cs := c_spec_l10Timing) (q := q_spec_l10Timing) ob_spec_l10Timing st_spec_l10Timing ck_spec_l10Timing (fun x h => Eq.mp (ou_spec_l10Timing x) h) (fun x => (vu_spec_l10Timing x).symm)
noncomputable def dc_spec_l4Draw : DCode :=
  (.seq [3, 2, 1, 0] (.region [oa 0 8 (.mv (.c .nils))])
  (.seq [9, 3, 2, 1, 0] (.region [⟨0, some 14, .a false (.litSlice 3 0 [] []) (some (.cons (.int .i64) (.cons (.int .i64) (.one (.bool))))), none, []⟩,
 om 1 9 14])
  (.seq [10, 9, 3, 2, 1, 0] (.region [oi 0 10 0])
  (.seq [11, 10, 9, 3, 2, 1, 0] (.region [oi 0 11 0])
  (.seq [9] (.seq [12, 11, 10, 9, 3, 1, 0] (.region [om 0 15 0,
 om 1 16 2,
 oa 2 17 (.bin .add (.t 16) (.c (.int .i64 1))),
 op 3 18 s_spec_l1Below p_spec_l1Below D_spec_l1Below [(.t 15), (.t 17)],
 om 4 12 18])
  (.block 0 (.loop [0, 1, 3, 9, 10, 11, 12] 1 (.seq [12, 11, 10, 9, 3, 1, 0] (.seq [20, 12, 11, 10, 9, 3, 1, 0] (.region [om 0 19 12,
 oa 1 20 (.bin .gtr (.t 19) (.c (.int .i64 0)))])
  (.cond (.t 20) .skip (.exit 0)))
  (.seq [12, 11, 10, 9, 3, 1, 0] (.block 1 (.seq [12, 11, 10, 9, 3, 1, 0] (.region [om 0 23 10,
 om 1 24 0,
 om 2 25 3,
 oa 3 26 (.bin .quo (.t 25) (.c (.int .i64 3))),
 om 4 27 3,
 oa 5 28 (.bin .sub (.t 27) (.c (.int .i64 1))),
 om 6 29 3,
 om 7 30 3,
 oa 8 31 (.bin .add (.t 30) (.c (.int .i64 1))),
 om 9 32 3,
 oa 10 33 (.bin .quo (.t 32) (.c (.int .i64 2))),
 ⟨11, some 34, .a false (.litSlice 1 8 [(.int .i64 0), (.int .i64 0), (.int .i64 0), (.int .i64 0), (.int .i64 0), (.int .i64 0), (.int .i64 0), (.int .i64 0)] [(0, 1, (.c (.int .i64 0))), (1, 1, (.c (.int .i64 0))), (2, 1, (.c (.int .i64 1))), (3, 1, (.t 26)), (4, 1, (.t 28)), (5, 1, (.t 29)), (6, 1, (.t 31)), (7, 1, (.t 33))]) (some (.one (.int .i64))), none, []⟩,
 ⟨12, some 35, .callp true s_spec_l1PickInt p_spec_l1PickInt D_spec_l1PickInt [(.t 24), (.t 34)], none, []⟩,
 oa 13 36 (.bin .add (.t 23) (.t 35)),
 om 14 10 36])
  (.seq [13, 12, 11, 10, 9, 3, 1, 0] (.region [om 0 37 0,
 om 1 38 1,
 op 2 39 s_spec_l1Below p_spec_l1Below D_spec_l1Below [(.t 37), (.t 38)],
 om 3 13 39])
  (.seq [13, 12, 11, 10, 9, 3, 1, 0] (.region [om 0 40 11,
 om 1 41 13,
 oa 2 42 (.bin .shl (.c (.int .i64 1)) (.t 41)),
 oa 3 43 (.bin .xor (.t 40) (.t 42)),
 om 4 11 43])
  (.region [om 0 44 9,
 om 1 45 10,
 om 2 46 13,
 om 3 47 11,
 om 4 48 13,
 oa 5 49 (.bin .shr (.t 47) (.t 48)),
 oa 6 50 (.bin .and (.t 49) (.c (.int .i64 1))),
 oa 7 51 (.bin .eql (.t 50) (.c (.int .i64 1))),
 oa 8 52 (.build [(.int .i64 0), (.int .i64 0), (.bool false)] [(0, 1, (.t 45)), (1, 1, (.t 46)), (2, 1, (.t 51))]),
 ⟨9, some 53, .a false (.litSlice 3 1 [(.int .i64 0), (.int .i64 0), (.bool false)] [(0, 3, (.t 52))]) (some (.cons (.int .i64) (.cons (.int .i64) (.one (.bool))))), none, []⟩,
 oa 10 54 (.app 3 (.t 44) (.t 53)),
 om 11 9 54])))))
  (.region [om 0 21 12,
 oa 1 22 (.bin .sub (.t 21) (.c (.int .i64 1))),
 om 2 12 22]))))))
  (.seq [8] (.region [om 0 55 9,
 om 1 8 55])
  .ret))))))
noncomputable def df_spec_l4Draw : DFun := ⟨4, 56, 0, false, [.tmp 8], dc_spec_l4Draw⟩
noncomputable def pf_spec_l4Draw : PFun := df_spec_l4Draw.er
noncomputable def f_spec_l4Draw : AFun := pf_spec_l4Draw.er
@[irreducible] noncomputable def s_spec_l4Draw : CallSem := funSem f_spec_l4Draw
@[irreducible] noncomputable def p_spec_l4Draw : PSem := pfunSem pf_spec_l4Draw
theorem sp_spec_l4Draw : SoundP s_spec_l4Draw p_spec_l4Draw := by unfold s_spec_l4Draw p_spec_l4Draw; exact pfun_sound (f := pf_spec_l4Draw) ⟨sp_spec_l1Below, sp_spec_l1PickInt, sp_spec_l1Below, trivial⟩
def h_spec_l4Draw : List HT := [.one .frz (.int .i64), .one .frz (.int .i64), .one .frz (.int .i64)]
def c_spec_l4Draw : List (Ql × CT) := [(.frz, .sl (.one (.int .u8))), (.own, .int .i64), (.own, .int .i64)]
def q_spec_l4Draw : QT := .one (.one .own (.sl (.cons (.int .i64) (.cons (.int .i64) (.one (.bool))))))
@[irreducible] noncomputable def v_spec_l4Draw (x : (List (Int) × Int × Int) × Int × Int × Int) : (List (Int × Int × Bool)) × (Int × Int) := (shut fun x => fnPV df_spec_l4Draw h_spec_l4Draw c_spec_l4Draw q_spec_l4Draw x).1 x
@[irreducible] noncomputable def ok_spec_l4Draw (x : (List (Int) × Int × Int) × Int × Int × Int) : Prop := (shut fun x => fnPOk df_spec_l4Draw h_spec_l4Draw c_spec_l4Draw q_spec_l4Draw x).1 x
theorem vu_spec_l4Draw (x : (List (Int) × Int × Int) × Int × Int × Int) : v_spec_l4Draw x = fnPV df_spec_l4Draw h_spec_l4Draw c_spec_l4Draw q_spec_l4Draw x := by unfold v_spec_l4Draw; exact congrFun (shut _).2 x
theorem ou_spec_l4Draw (x : (List (Int) × Int × Int) × Int × Int × Int) : ok_spec_l4Draw x = fnPOk df_spec_l4Draw h_spec_l4Draw c_spec_l4Draw q_spec_l4Draw x := by unfold ok_spec_l4Draw; exact congrFun (shut _).2 x
noncomputable def D_spec_l4Draw : DSemP := DSemOfP h_spec_l4Draw c_spec_l4Draw q_spec_l4Draw ok_spec_l4Draw v_spec_l4Draw
theorem ck_spec_l4Draw (x : (List (Int) × Int × Int) × Int × Int × Int) : fnPChk df_spec_l4Draw h_spec_l4Draw c_spec_l4Draw q_spec_l4Draw x = true := by kernel_rfl
theorem ob_spec_l4Draw : AllD df_spec_l4Draw.body.obs := ⟨sd_spec_l1Below, sd_spec_l1PickInt, sd_spec_l1Below, trivial⟩
theorem st_spec_l4Draw : fnPSt df_spec_l4Draw h_spec_l4Draw c_spec_l4Draw = true := by kernel_rfl
theorem sd_spec_l4Draw : SoundDP p_spec_l4Draw D_spec_l4Draw := by unfold p_spec_l4Draw; exact soundDP_of (f := df_spec_l4Draw) (hs := h_spec_l4Draw) (cs := c_spec_l4Draw) (q := q_spec_l4Draw) ob_spec_l4Draw st_spec_l4Draw ck_spec_l4Draw (fun x h => Eq.mp (ou_spec_l4Draw x) h) (fun x => (vu_spec_l4Draw x).symm)
noncomputable def dc_spec_DrawChoiceOf : DCode :=
  (.seq [2, 0] (.region [oa 0 2 (.allocB 0 [(.int .i64 0), (.int .i64 0), (.int .i64 0)]),
 oi 1 3 0,
 oi 2 4 0,
 oa 3 5 (.mv (.c .nils)),
 oi 4 6 0])
  (.seq [7, 2] (.region [on 0 10 0,
 op 1 11 s_spec_l1New p_spec_l1New D_spec_l1New [(.t 10)],
 om 2 7 11])
  (.seq [8, 7, 2] (.region [om 0 12 7,
 op 1 13 s_spec_l10Timing p_spec_l10Timing D_spec_l10Timing [(.t 12)],
 oa 2 8 (.allocB 1 [(.int .i64 0), (.int .i64 0), (.int .i64 0)]),
 os 3 (.storeB 1 3 (.t 8) (.t 13))])
  (.seq [9, 8, 7, 2] (.region [om 0 14 7,
 oa 1 15 (.fieldA 0 (.t 8)),
 oa 2 16 (.loadB 1 none (.t 15)),
 op 3 17 s_spec_l4Draw p_spec_l4Draw D_spec_l4Draw [(.t 14), (.c (.int .i64 3)), (.c (.int .i64 5)), (.t 16)],
 om 4 9 17])
  (.seq [9, 8, 7, 2] (.seq [24, 9, 8, 7, 2] (.region [on 0 18 9,
 oa 1 19 (.len (.t 18)),
 oa 2 20 (.bin .gtr (.t 19) (.c (.int .i64 0))),
 om 3 21 20,
 og 4 22 (.mv (.t 7)) 21 true,
 ⟨5, some 23, .callp false s_spec_l1Once p_spec_l1Once D_spec_l1Once [(.t 22), (.c (.int .i64 12))], (some (21, true)), []⟩,
 oa 6 24 (.pick (.t 21) (.t 23) (.c (.bool false)))])
  (.cond (.t 24) (.region [on 0 25 9,
 om 1 26 7,
 on 2 27 9,
 oa 3 28 (.len (.t 27)),
 op 4 29 s_spec_l1Below p_spec_l1Below D_spec_l1Below [(.t 26), (.t 28)],
 om 5 30 7,
 ⟨6, some 31, .a false (.litSlice 1 2 [(.int .i64 0), (.int .i64 0)] [(0, 1, (.c (.int .i64 (-1)))), (1, 1, (.c (.int .i64 1000001)))]) (some (.one (.int .i64))), none, []⟩,
 ⟨7, some 32, .callp true s_spec_l1PickInt p_spec_l1PickInt D_spec_l1PickInt [(.t 30), (.t 31)], none, []⟩,
 oa 8 33 (.indexA 3 (.t 25) (.t 29)),
 oa 9 34 (.fieldA 0 (.t 33)),
 os 10 (.storeH 1 (.t 34) (.t 32))]) .skip))
  (.seq [6, 5, 4, 3, 2] (.region [⟨5, some 40, .a false (.litSlice 1 6 [(.int .i64 0), (.int .i64 0), (.int .i64 0), (.int .i64 0), (.int .i64 0), (.int .i64 0)] [(0, 1, (.c (.int .i64 0))), (1, 1, (.c (.int .i64 0))), (2, 1, (.c (.int .i64 1))), (3, 1, (.c (.int .i64 (-1)))), (4, 1, (.c (.int .i64 1000000))), (5, 1, (.c (.int .i64 1000001)))]) (some (.one (.int .i64))), none, []⟩,
 ⟨9, some 44, .a false (.litSlice 1 6 [(.int .i64 0), (.int .i64 0), (.int .i64 0), (.int .i64 0), (.int .i64 0), (.int .i64 0)] [(0, 1, (.c (.int .i64 0))), (1, 1, (.c (.int .i64 3))), (2, 1, (.c (.int .i64 9))), (3, 1, (.c (.int .i64 20))), (4, 1, (.c (.int .i64 60))), (5, 1, (.c (.int .i64 (-1))))]) (some (.one (.int .i64))), none, []⟩,
 ob 0 35 (.loadB 1 (some 3) (.t 8)),
 om 1 36 7,
 om 4 39 7,
 om 7 42 9,
 om 8 43 7,
 xP 2 37 s_spec_l1Below p_spec_l1Below D_spec_l1Below [(.t 36), (.c (.int .i64 4))] [1],
 xA 3 38 (.bin .sub (.t 37) (.c (.int .i64 1))) [1, 2],
 ⟨6, some 41, .callp true s_spec_l1PickInt p_spec_l1PickInt D_spec_l1PickInt [(.t 39), (.t 40)], none, [1, 2, 4, 5]⟩,
 ⟨10, some 45, .callp true s_spec_l1PickInt p_spec_l1PickInt D_spec_l1PickInt [(.t 43), (.t 44)], none, [1, 2, 4, 5, 6, 8, 9]⟩,
 xS 11 (.storeB 0 3 (.t 2) (.t 35)) [0, 1, 2, 4, 5, 6, 8, 9, 10],
 xA 12 3 (.mv (.t 38)) [0, 1, 2, 3, 4, 5, 6, 8, 9, 10, 11],
 xA 13 4 (.mv (.t 41)) [0, 1, 2, 3, 4, 5, 6, 8, 9, 10, 11, 12],
 xA 14 5 (.mv (.t 42)) (rg 14),
 xA 15 6 (.mv (.t 45)) (rg 15)])
  .ret))))))
noncomputable def df_spec_DrawChoiceOf : DFun := ⟨1, 46, 2, false, [.cell 2 (some 3), .tmp 3, .tmp 4, .tmp 5, .tmp 6], dc_spec_DrawChoiceOf⟩
noncomputable def pf_spec_DrawChoiceOf : PFun := df_spec_DrawChoiceOf.er
noncomputable def f_spec_DrawChoiceOf : AFun := pf_spec_DrawChoiceOf.er
@[irreducible] noncomputable def s_spec_DrawChoiceOf : CallSem := funSem f_spec_DrawChoiceOf
@[irreducible] noncomputable def p_spec_DrawChoiceOf : PSem := pfunSem pf_spec_DrawChoiceOf
theorem sp_spec_DrawChoiceOf : SoundP s_spec_DrawChoiceOf p_spec_DrawChoiceOf := by unfold s_spec_DrawChoiceOf p_spec_DrawChoiceOf; exact pfun_sound (f := pf_spec_DrawChoiceOf) ⟨sp_spec_l1New, sp_spec_l10Timing, sp_spec_l4Draw, sp_spec_l1Once, sp_spec_l1Below, sp_spec_l1PickInt, sp_spec_l1Below, sp_spec_l1PickInt, sp_spec_l1PickInt, trivial⟩
def h_spec_DrawChoiceOf : List HT := [.one .frz (.sl (.one (.int .u8)))]
def q_spec_DrawChoiceOf : QT := .tup [.agg [(.own, .int .i64), (.own, .int .i64), (.own, .int .i64)], .one .own (.int .i64), .one .own (.int .i64), .one .own (.sl (.cons (.int .i64) (.cons (.int .i64) (.one (.bool))))), .one .own (.int .i64)]
@[irreducible] noncomputable def v_spec_DrawChoiceOf (x : List (Int)) : (Int × Int × Int) × Int × Int × (List (Int × Int × Bool)) × Int := (shut fun x => fnV df_spec_DrawChoiceOf h_spec_DrawChoiceOf q_spec_DrawChoiceOf x).1 x
@[irreducible] noncomputable def ok_spec_DrawChoiceOf (x : List (Int)) : Prop := (shut fun x => fnOk df_spec_DrawChoiceOf h_spec_DrawChoiceOf q_spec_DrawChoiceOf x).1 x
theorem vu_spec_DrawChoiceOf (x : List (Int)) : v_spec_DrawChoiceOf x = fnV df_spec_DrawChoiceOf h_spec_DrawChoiceOf q_spec_DrawChoiceOf x := by unfold v_spec_DrawChoiceOf; exact congrFun (shut _).2 x
theorem ou_spec_DrawChoiceOf (x : List (Int)) : ok_spec_DrawChoiceOf x = fnOk df_spec_DrawChoiceOf h_spec_DrawChoiceOf q_spec_DrawChoiceOf x := by unfold ok_spec_DrawChoiceOf; exact congrFun (shut _).2 x
noncomputable def D_spec_DrawChoiceOf : DSem := DSemOf h_spec_DrawChoiceOf q_spec_DrawChoiceOf ok_spec_DrawChoiceOf v_spec_DrawChoiceOf
theorem ck_spec_DrawChoiceOf (x : List (Int)) : fnChk df_spec_DrawChoiceOf h_spec_DrawChoiceOf q_spec_DrawChoiceOf x = true := by kernel_rfl
theorem ob_spec_DrawChoiceOf : AllD df_spec_DrawChoiceOf.body.obs := ⟨sd_spec_l1New, sd_spec_l10Timing, sd_spec_l4Draw, sd_spec_l1Once, sd_spec_l1Below, sd_spec_l1PickInt, sd_spec_l1Below, sd_spec_l1PickInt, sd_spec_l1PickInt, trivial⟩
theorem st_spec_DrawChoiceOf : fnSt df_spec_DrawChoiceOf h_spec_DrawChoiceOf q_spec_DrawChoiceOf = true := by kernel_rfl
theorem sd_spec_DrawChoiceOf : SoundD p_spec_DrawChoiceOf D_spec_DrawChoiceOf := by unfold p_spec_DrawChoiceOf; exact soundD_of (f := df_spec_DrawChoiceOf) (hs := h_spec_DrawChoiceOf) (q := q_spec_DrawChoiceOf) ob_spec_DrawChoiceOf st_spec_DrawChoiceOf ck_spec_DrawChoiceOf (fun x h => Eq.mp (ou_spec_DrawChoiceOf x) h) (fun x => (vu_spec_DrawChoiceOf x).symm)
noncomputable def dc_spec_IsEvents : DCode :=
  (.seq [0] (.region [oa 0 2 (.mv (.c (.bool false)))])
  (.seq [3, 0] (.region [oi 0 3 0])
  (.seq [0] (.seq [4, 3, 0] (.region [oi 0 4 0])
  (.block 0 (.loop [0, 3, 4] 1 (.seq [4, 3, 0] (.seq [8, 4, 3, 0] (.region [om 0 5 4,
 on 1 6 0,
 oa 2 7 (.len (.t 6)),
 oa 3 8 (.bin .lss (.t 5) (.t 7))])
  (.cond (.t 8) .skip (.exit 0)))
  (.seq [4, 3, 0] (.block 1 (.seq [4, 3, 0] (.seq [51, 4, 3, 0] (.region [on 0 11 0,
 om 1 12 4,
 xA 2 13 (.indexA 3 (.t 11) (.t 12)) (rg 2),
 xA 3 14 (.loadH (some 3) (.t 13)) (rg 3),
 xC 4 15 s_spec_IsEvent p_spec_IsEvent D_spec_IsEvent [(.t 14)] (rg 4),
 xA 5 16 (.un .not (.t 15)) (rg 5),
 xA 6 17 (.mv (.t 16)) (rg 6),
 ⟨7, some 18, .a false (.mv (.t 4)) none, (some (17, false)), [0, 1, 2, 3, 4, 5, 6]⟩,
 ⟨8, some 19, .a false (.bin .gtr (.t 18) (.c (.int .i64 0))) none, (some (17, false)), [0, 1, 2, 3, 4, 5, 6, 7]⟩,
 ⟨9, some 20, .a false (.mv (.t 19)) none, (some (17, false)), [0, 1, 2, 3, 4, 5, 6, 7, 8]⟩,
 ⟨10, some 21, .a true (.mv (.t 0)) none, (some (20, true)), [0, 1, 2, 3, 4, 5, 6, 7, 8, 9]⟩,
 ⟨11, some 22, .a false (.mv (.t 4)) none, (some (20, true)), [0, 1, 2, 3, 4, 5, 6, 7, 8, 9]⟩,
 ⟨12, some 23, .a false (.indexA 3 (.t 21) (.t 22)) none, (some (20, true)), [0, 1, 2, 3, 4, 5, 6, 7, 8, 9, 10, 11]⟩,
 ⟨13, some 24, .a false (.fieldA 0 (.t 23)) none, (some (20, true)), [0, 1, 2, 3, 4, 5, 6, 7, 8, 9, 10, 11, 12]⟩,
 ⟨14, some 25, .a false (.loadH none (.t 24)) none, (some (20, true)), [0, 1, 2, 3, 4, 5, 6, 7, 8, 9, 10, 11, 12, 13]⟩,
 ⟨15, some 26, .a true (.mv (.t 0)) none, (some (20, true)), [0, 1, 2, 3, 4, 5, 6, 7, 8, 9]⟩,
 ⟨16, some 27, .a false (.mv (.t 4)) none, (some (20, true)), [0, 1, 2, 3, 4, 5, 6, 7, 8, 9]⟩,
 ⟨17, some 28, .a false (.bin .sub (.t 27) (.c (.int .i64 1))) none, (some (20, true)), [0, 1, 2, 3, 4, 5, 6, 7, 8, 9, 16]⟩,
 ⟨18, some 29, .a false (.indexA 3 (.t 26) (.t 28)) none, (some (20, true)), [0, 1, 2, 3, 4, 5, 6, 7, 8, 9, 15, 16, 17]⟩,
 ⟨19, some 30, .a false (.fieldA 0 (.t 29)) none, (some (20, true)), [0, 1, 2, 3, 4, 5, 6, 7, 8, 9, 15, 16, 17, 18]⟩,
 ⟨20, some 31, .a false (.loadH none (.t 30)) none, (some (20, true)), [0, 1, 2, 3, 4, 5, 6, 7, 8, 9, 15, 16, 17, 18, 19]⟩,
 ⟨21, some 32, .a false (.bin .lss (.t 25) (.t 31)) none, (some (20, true)), [0, 1, 2, 3, 4, 5, 6, 7, 8, 9, 10, 11, 12, 13, 14, 15, 16, 17, 18, 19, 20]⟩,
 ⟨22, some 33, .a false (.pick (.t 20) (.t 32) (.c (.bool false))) none, (some (17, false)), [0, 1, 2, 3, 4, 5, 6, 7, 8, 9, 10, 11, 12, 13, 14, 15, 16, 17, 18, 19, 20, 21]⟩,
 xA 23 34 (.pick (.t 17) (.c (.bool true)) (.t 33)) (rg 23),
 xA 24 35 (.mv (.t 34)) (rg 24),
 ⟨25, some 36, .a true (.mv (.t 0)) none, (some (35, false)), [0, 1, 2, 3, 4, 5, 6, 7, 8, 9, 10, 11, 12, 13, 14, 15, 16, 17, 18, 19, 20, 21, 22, 23, 24]⟩,
 ⟨26, some 37, .a false (.mv (.t 4)) none, (some (35, false)), [0, 1, 2, 3, 4, 5, 6, 7, 8, 9, 10, 11, 12, 13, 14, 15, 16, 17, 18, 19, 20, 21, 22, 23, 24]⟩,
 ⟨27, some 38, .a false (.indexA 3 (.t 36) (.t 37)) none, (some (35, false)), [0, 1, 2, 3, 4, 5, 6, 7, 8, 9, 10, 11, 12, 13, 14, 15, 16, 17, 18, 19, 20, 21, 22, 23, 24, 25, 26]⟩,
 ⟨28, some 39, .a false (.fieldA 2 (.t 38)) none, (some (35, false)), [0, 1, 2, 3, 4, 5, 6, 7, 8, 9, 10, 11, 12, 13, 14, 15, 16, 17, 18, 19, 20, 21, 22, 23, 24, 25, 26, 27]⟩,
 ⟨29, some 40, .a false (.loadH none (.t 39)) none, (some (35, false)), [0, 1, 2, 3, 4, 5, 6, 7, 8, 9, 10, 11, 12, 13, 14, 15, 16, 17, 18, 19, 20, 21, 22, 23, 24, 25, 26, 27, 28]⟩,
 ⟨30, some 41, .a false (.mv (.t 3)) none, (some (35, false)), [0, 1, 2, 3, 4, 5, 6, 7, 8, 9, 10, 11, 12, 13, 14, 15, 16, 17, 18, 19, 20, 21, 22, 23, 24]⟩,
 ⟨31, some 42, .a true (.mv (.t 0)) none, (some (35, false)), [0, 1, 2, 3, 4, 5, 6, 7, 8, 9, 10, 11, 12, 13, 14, 15, 16, 17, 18, 19, 20, 21, 22, 23, 24]⟩,
 ⟨32, some 43, .a false (.mv (.t 4)) none, (some (35, false)), [0, 1, 2, 3, 4, 5, 6, 7, 8, 9, 10, 11, 12, 13, 14, 15, 16, 17, 18, 19, 20, 21, 22, 23, 24]⟩,
 ⟨33, some 44, .a false (.indexA 3 (.t 42) (.t 43)) none, (some (35, false)), [0, 1, 2, 3, 4, 5, 6, 7, 8, 9, 10, 11, 12, 13, 14, 15, 16, 17, 18, 19, 20, 21, 22, 23, 24, 31, 32]⟩,
 ⟨34, some 45, .a false (.fieldA 1 (.t 44)) none, (some (35, false)), [0, 1, 2, 3, 4, 5, 6, 7, 8, 9, 10, 11, 12, 13, 14, 15, 16, 17, 18, 19, 20, 21, 22, 23, 24, 31, 32, 33]⟩,
 ⟨35, some 46, .a false (.loadH none (.t 45)) none, (some (35, false)), [0, 1, 2, 3, 4, 5, 6, 7, 8, 9, 10, 11, 12, 13, 14, 15, 16, 17, 18, 19, 20, 21, 22, 23, 24, 31, 32, 33, 34]⟩,
 ⟨36, some 47, .a false (.bin .shr (.t 41) (.t 46)) none, (some (35, false)), [0, 1, 2, 3, 4, 5, 6, 7, 8, 9, 10, 11, 12, 13, 14, 15, 16, 17, 18, 19, 20, 21, 22, 23, 24, 30, 31, 32, 33, 34, 35]⟩,
 ⟨37, some 48, .a false (.bin .and (.t 47) (.c (.int .i64 1))) none, (some (35, false)), [0, 1, 2, 3, 4, 5, 6, 7, 8, 9, 10, 11, 12, 13, 14, 15, 16, 17, 18, 19, 20, 21, 22, 23, 24, 30, 31, 32, 33, 34, 35, 36]⟩,
 ⟨38, some 49, .a false (.bin .eql (.t 48) (.c (.int .i64 1))) none, (some (35, false)), [0, 1, 2, 3, 4, 5, 6, 7, 8, 9, 10, 11, 12, 13, 14, 15, 16, 17, 18, 19, 20, 21, 22, 23, 24, 30, 31, 32, 33, 34, 35, 36, 37]⟩,
 ⟨39, some 50, .a false (.eqB false (.t 40) (.t 49)) none, (some (35, false)), [0, 1, 2, 3, 4, 5, 6, 7, 8, 9, 10, 11, 12, 13, 14, 15, 16, 17, 18, 19, 20, 21, 22, 23, 24, 25, 26, 27, 28, 29, 30, 31, 32, 33, 34, 35, 36, 37, 38]⟩,
 xA 40 51 (.pick (.t 35) (.c (.bool true)) (.t 50)) (rg 40)])
  (.cond (.t 51) (.seq [2] (.region [oa 0 2 (.mv (.c (.bool false)))])
  .ret) .skip))
  (.region [om 0 52 3,
 on 1 53 0,
 om 2 54 4,
 oa 3 55 (.indexA 3 (.t 53) (.t 54)),
 oa 4 56 (.fieldA 1 (.t 55)),
 oa 5 57 (.loadH none (.t 56)),
 oa 6 58 (.bin .shl (.c (.int .i64 1)) (.t 57)),
 oa 7 59 (.bin .xor (.t 52) (.t 58)),
 om 8 3 59])))
  (.region [om 0 9 4,
 oa 1 10 (.bin .add (.t 9) (.c (.int .i64 1))),
 om 2 4 10]))))))
  (.seq [2] (.region [on 0 60 0,
 oa 1 61 (.len (.t 60)),
 oa 2 62 (.bin .leq (.t 61) (.c (.int .i64 64))),
 om 3 2 62])
  .ret))))
noncomputable def df_spec_IsEvents : DFun := ⟨1, 63, 0, true, [.tmp 2], dc_spec_IsEvents⟩
noncomputable def pf_spec_IsEvents : PFun := df_spec_IsEvents.er
noncomputable def f_spec_IsEvents : AFun := pf_spec_IsEvents.er
@[irreducible] noncomputable def s_spec_IsEvents : CallSem := funSem f_spec_IsEvents
@[irreducible] noncomputable def p_spec_IsEvents : PSem := pfunSem pf_spec_IsEvents
theorem sp_spec_IsEvents : SoundP s_spec_IsEvents p_spec_IsEvents := by unfold s_spec_IsEvents p_spec_IsEvents; exact pfun_sound (f := pf_spec_IsEvents) ⟨sp_spec_IsEvent, trivial⟩
def h_spec_IsEvents : List HT := [.one .frz (.sl (.cons (.int .i64) (.cons (.int .i64) (.one (.bool)))))]
def q_spec_IsEvents : QT := .one (.one .own (.bool))
@[irreducible] noncomputable def v_spec_IsEvents (x : List (Int × Int × Bool)) : Bool := (shut fun x => fnV df_spec_IsEvents h_spec_IsEvents q_spec_IsEvents x).1 x
@[irreducible] noncomputable def ok_spec_IsEvents (x : List (Int × Int × Bool)) : Prop := (shut fun x => fnOk df_spec_IsEvents h_spec_IsEvents q_spec_IsEvents x).1 x
theorem vu_spec_IsEvents (x : List (Int × Int × Bool)) : v_spec_IsEvents x = fnV df_spec_IsEvents h_spec_IsEvents q_spec_IsEvents x := by unfold v_spec_IsEvents; exact congrFun (shut _).2 x
theorem ou_spec_IsEvents (x : List (Int × Int × Bool)) : ok_spec_IsEvents x = fnOk df_spec_IsEvents h_spec_IsEvents q_spec_IsEvents x := by unfold ok_spec_IsEvents; exact congrFun (shut _).2 x
noncomputable def D_spec_IsEvents : DSem := DSemOf h_spec_IsEvents q_spec_IsEvents ok_spec_IsEvents v_spec_IsEvents
theorem ck_spec_IsEvents (x : List (Int × Int × Bool)) : fnChk df_spec_IsEvents h_spec_IsEvents q_spec_IsEvents x = true := by kernel_rfl
theorem ob_spec_IsEvents : AllD df_spec_IsEvents.body.obs := ⟨sd_spec_IsEvent, trivial⟩
theorem st_spec_IsEvents : fnSt df_spec_IsEvents h_spec_IsEvents q_spec_IsEvents = true := by kernel_rfl
theorem sd_spec_IsEvents : SoundD p_spec_IsEvents D_spec_IsEvents := by unfold p_spec_IsEvents; exact soundD_of (f := df_spec_IsEvents) (hs := h_spec_IsEvents) (q := q_spec_IsEvents) ob_spec_IsEvents st_spec_IsEvents ck_spec_IsEvents (fun x h => Eq.mp (ou_spec_IsEvents x) h) (fun x => (vu_spec_IsEvents x).symm)
noncomputable def dc_laws_FnFlavors : DCode :=
  (.seq [0] (.region [oa 0 2 (.mv (.c (.bool false)))])
  (.seq [0] (.seq [17, 0] (.region [on 0 16 0,
 oc 1 17 s_laws_big p_laws_big D_laws_big [(.t 16)]])
  (.cond (.t 17) (.seq [2] (.region [oa 0 2 (.mv (.c (.bool true)))])
  .ret) .skip))
  (.seq [6, 5, 4, 3] (.region [on 0 19 0,
 oc 1 20 s_spec_DrawChoiceOf p_spec_DrawChoiceOf D_spec_DrawChoiceOf [(.t 19)],
 om 2 18 20,
 oa 3 21 (.extract (.t 18) 0),
 oa 4 22 (.extract (.t 18) 1),
 oa 5 23 (.extract (.t 18) 2),
 oa 6 24 (.extract (.t 18) 3),
 oa 7 25 (.extract (.t 18) 4),
 oa 8 3 (.allocB 0 [(.int .i64 0), (.int .i64 0), (.int .i64 0)]),
 os 9 (.storeB 0 3 (.t 3) (.t 21)),
 om 10 4 22,
 om 11 5 23,
 on 12 6 24,
 om 13 7 25])
  (.seq [6, 5, 4, 3] (.seq [33, 6, 5, 4, 3] (.region [on 0 26 6,
 oc 1 27 s_spec_IsEvents p_spec_IsEvents D_spec_IsEvents [(.t 26)],
 oa 2 28 (.un .not (.t 27)),
 om 3 29 28,
 og 4 30 (.loadB 0 (some 3) (.t 3)) 29 false,
 ⟨5, some 31, .call false s_spec_IsTiming p_spec_IsTiming D_spec_IsTiming [(.t 30)], (some (29, false)), []⟩,
 og 6 32 (.un .not (.t 31)) 29 false,
 oa 7 33 (.pick (.t 29) (.c (.bool true)) (.t 32))])
  (.cond (.t 33) (.seq [2] (.region [oa 0 2 (.mv (.c (.bool true)))])
  .ret) .skip))
  (.seq [6, 5, 4, 3] (.region [oa 0 34 (.fieldA 2 (.t 3)),
 os 1 (.storeB 0 1 (.t 34) (.c (.int .i64 0)))])
  (.seq [9, 8, 6, 5, 4, 3] (.region [oa 0 36 (.loadB 0 (some 3) (.t 3)),
 om 1 37 4,
 om 2 38 5,
 on 3 39 6,
 oc 4 40 s_impl_ChoiceOf p_impl_ChoiceOf D_impl_ChoiceOf [(.t 36), (.t 37), (.t 38), (.t 39), (.c (.int .i64 1000000))],
 om 5 35 40,
 oa 6 41 (.extract (.t 35) 0),
 oa 7 42 (.extract (.t 35) 1),
 om 8 8 41,
 om 9 9 42])
  (.seq [9, 8, 6, 5, 4, 3] (.seq [11, 9, 8, 6, 5, 4, 3] (.region [oa 0 44 (.loadB 0 (some 3) (.t 3)),
 om 1 45 4,
 om 2 46 5,
 on 3 47 6,
 oc 4 48 s_spec_ChoiceOf p_spec_ChoiceOf D_spec_ChoiceOf [(.t 44), (.t 45), (.t 46), (.t 47), (.c (.int .i64 1000000))],
 om 5 43 48,
 oa 6 49 (.extract (.t 43) 0),
 oa 7 50 (.extract (.t 43) 1),
 om 8 10 49,
 om 9 11 50])
  (.seq [53, 9, 8, 6, 5, 4, 3] (.region [om 0 51 9,
 om 1 52 11,
 oa 2 53 (.bin .neq (.t 51) (.t 52))])
  (.cond (.t 53) (.seq [2] (.region [oa 0 2 (.mv (.c (.bool false)))])
  .ret) .skip)))
  (.seq [9, 8, 6, 5, 4, 3] (.region [oa 0 54 (.fieldA 2 (.t 3)),
 os 1 (.storeB 0 1 (.t 54) (.c (.int .i64 2)))])
  (.seq [13, 12, 9, 8, 6, 5, 4, 3] (.region [oa 0 56 (.loadB 0 (some 3) (.t 3)),
 om 1 57 4,
 om 2 58 5,
 on 3 59 6,
 oc 4 60 s_impl_ChoiceOf p_impl_ChoiceOf D_impl_ChoiceOf [(.t 56), (.t 57), (.t 58), (.t 59), (.c (.int .i64 1000000))],
 om 5 55 60,
 oa 6 61 (.extract (.t 55) 0),
 oa 7 62 (.extract (.t 55) 1),
 om 8 12 61,
 om 9 13 62])
  (.seq [13, 12, 9, 8, 6, 5, 4, 3] (.region [oa 0 63 (.fieldA 2 (.t 3)),
 os 1 (.storeB 0 1 (.t 63) (.c (.int .i64 1)))])
  (.seq [15, 14, 13, 12, 9, 8] (.region [oa 0 65 (.loadB 0 (some 3) (.t 3)),
 om 1 66 4,
 om 2 67 5,
 on 3 68 6,
 oc 4 69 s_impl_ChoiceOf p_impl_ChoiceOf D_impl_ChoiceOf [(.t 65), (.t 66), (.t 67), (.t 68), (.c (.int .i64 1000000))],
 om 5 64 69,
 oa 6 70 (.extract (.t 64) 0),
 oa 7 71 (.extract (.t 64) 1),
 om 8 14 70,
 om 9 15 71])
  (.seq [15, 14, 13, 12, 9, 8] (.seq [95, 15, 14, 13, 12, 9, 8] (.region [om 0 72 8,
 oa 1 73 (.bin .eql (.t 72) (.c (.int .i64 2))),
 om 2 74 73,
 og 3 75 (.mv (.t 12)) 74 true,
 og 4 76 (.bin .neq (.t 75) (.c (.int .i64 2))) 74 true,
 og 5 77 (.mv (.t 76)) 74 true,
 og 6 78 (.mv (.t 13)) 77 false,
 og 7 79 (.mv (.t 9)) 77 false,
 og 8 80 (.bin .gtr (.t 78) (.t 79)) 77 false,
 og 9 81 (.pick (.t 77) (.c (.bool true)) (.t 80)) 74 true,
 oa 10 82 (.pick (.t 74) (.t 81) (.c (.bool false))),
 om 11 83 82,
 og 12 84 (.mv (.t 12)) 83 false,
 og 13 85 (.bin .eql (.t 84) (.c (.int .i64 2))) 83 false,
 og 14 86 (.mv (.t 85)) 83 false,
 og 15 87 (.mv (.t 14)) 86 true,
 og 16 88 (.bin .neq (.t 87) (.c (.int .i64 2))) 86 true,
 og 17 89 (.mv (.t 88)) 86 true,
 og 18 90 (.mv (.t 15)) 89 false,
 og 19 91 (.mv (.t 13)) 89 false,
 og 20 92 (.bin .gtr (.t 90) (.t 91)) 89 false,
 og 21 93 (.pick (.t 89) (.c (.bool true)) (.t 92)) 86 true,
 og 22 94 (.pick (.t 86) (.t 93) (.c (.bool false))) 83 false,
 oa 23 95 (.pick (.t 83) (.c (.bool true)) (.t 94))])
  (.cond (.t 95) (.seq [2] (.region [oa 0 2 (.mv (.c (.bool false)))])
  .ret) .skip))
  (.seq [2] (.region [om 0 96 14,
 oa 1 97 (.bin .neq (.t 96) (.c (.int .i64 1))),
 om 2 98 97,
 og 3 99 (.mv (.t 12)) 98 false,
 og 4 100 (.bin .eql (.t 99) (.c (.int .i64 1))) 98 false,
 og 5 101 (.mv (.t 100)) 98 false,
 og 6 102 (.mv (.t 8)) 101 true,
 og 7 103 (.bin .eql (.t 102) (.c (.int .i64 1))) 101 true,
 og 8 104 (.pick (.t 101) (.t 103) (.c (.bool false))) 98 false,
 og 9 105 (.mv (.t 104)) 98 false,
 og 10 106 (.mv (.t 9)) 105 true,
 og 11 107 (.mv (.t 15)) 105 true,
 og 12 108 (.bin .eql (.t 106) (.t 107)) 105 true,
 og 13 109 (.pick (.t 105) (.t 108) (.c (.bool false))) 98 false,
 og 14 110 (.mv (.t 109)) 98 false,
 og 15 111 (.mv (.t 13)) 110 true,
 og 16 112 (.mv (.t 15)) 110 true,
 og 17 113 (.bin .eql (.t 111) (.t 112)) 110 true,
 og 18 114 (.pick (.t 110) (.t 113) (.c (.bool false))) 98 false,
 oa 19 115 (.pick (.t 98) (.c (.bool true)) (.t 114)),
 om 20 2 115])
  .ret)))))))))))))
noncomputable def df_laws_FnFlavors : DFun := ⟨1, 116, 1, true, [.tmp 2], dc_laws_FnFlavors⟩
noncomputable def pf_laws_FnFlavors : PFun := df_laws_FnFlavors.er
noncomputable def f_laws_FnFlavors : AFun := pf_laws_FnFlavors.er
@[irreducible] noncomputable def s_laws_FnFlavors : CallSem := funSem f_laws_FnFlavors
@[irreducible] noncomputable def p_laws_FnFlavors : PSem := pfunSem pf_laws_FnFlavors
theorem sp_laws_FnFlavors : SoundP s_laws_FnFlavors p_laws_FnFlavors := by unfold s_laws_FnFlavors p_laws_FnFlavors; exact pfun_sound (f := pf_laws_FnFlavors) ⟨sp_laws_big, sp_spec_DrawChoiceOf, sp_spec_IsEvents, sp_spec_IsTiming, sp_impl_ChoiceOf, sp_spec_ChoiceOf, sp_impl_ChoiceOf, sp_impl_ChoiceOf, trivial⟩
def h_laws_FnFlavors : List HT := [.one .frz (.sl (.one (.int .u8)))]
def q_laws_FnFlavors : QT := .one (.one .own (.bool))
@[irreducible] noncomputable def v_laws_FnFlavors (x : List (Int)) : Bool := (shut fun x => fnV df_laws_FnFlavors h_laws_FnFlavors q_laws_FnFlavors x).1 x
@[irreducible] noncomputable def ok_laws_FnFlavors (x : List (Int)) : Prop := (shut fun x => fnOk df_laws_FnFlavors h_laws_FnFlavors q_laws_FnFlavors x).1 x
theorem vu_laws_FnFlavors (x : List (Int)) : v_laws_FnFlavors x = fnV df_laws_FnFlavors h_laws_FnFlavors q_laws_FnFlavors x := by unfold v_laws_FnFlavors; exact congrFun (shut _).2 x
theorem ou_laws_FnFlavors (x : List (Int)) : ok_laws_FnFlavors x = fnOk df_laws_FnFlavors h_laws_FnFlavors q_laws_FnFlavors x := by unfold ok_laws_FnFlavors; exact congrFun (shut _).2 x
theorem ck_laws_FnFlavors (x : List (Int)) : fnChk df_laws_FnFlavors h_laws_FnFlavors q_laws_FnFlavors x = true := by kernel_rfl
theorem ob_laws_FnFlavors : AllD df_laws_FnFlavors.body.obs := ⟨sd_laws_big, sd_spec_DrawChoiceOf, sd_spec_IsEvents, sd_spec_IsTiming, sd_impl_ChoiceOf, sd_spec_ChoiceOf, sd_impl_ChoiceOf, sd_impl_ChoiceOf, trivial⟩
theorem st_laws_FnFlavors : fnSt df_laws_FnFlavors h_laws_FnFlavors q_laws_FnFlavors = true := by kernel_rfl
end
section
set_option maxRecDepth 100000
theorem ve_spec_l10Timing (x : List (Int) × Int × Int) : v_spec_l10Timing x = (((iAdd Go.IntKind.i64 1 (v_spec_l1Below (x, 9)).1), (v_spec_l1PickInt ((x.1, (v_spec_l1Below (x, 9)).2), [0, 0, 3, 6])).1, (v_spec_l1Below ((x.1, (v_spec_l1PickInt ((x.1, (v_spec_l1Below (x, 9)).2), [0, 0, 3, 6])).2), 3)).1), (v_spec_l1Below ((x.1, (v_spec_l1PickInt ((x.1, (v_spec_l1Below (x, 9)).2), [0, 0, 3, 6])).2), 3)).2) := (vu_spec_l10Timing x).trans (by kernel_rfl)
theorem oe_spec_l10Timing (x : List (Int) × Int × Int) : ok_spec_l10Timing x = ((ok_spec_l1Below (x, 9)) ∧ ((ok_spec_l1PickInt ((x.1, (v_spec_l1Below (x, 9)).2), [0, 0, 3, 6])) ∧ (ok_spec_l1Below ((x.1, (v_spec_l1PickInt ((x.1, (v_spec_l1Below (x, 9)).2), [0, 0, 3, 6])).2), 3)))) := (ou_spec_l10Timing x).trans (by kernel_rfl)
noncomputable def lc_spec_l4Draw_1 (x0 : ((List (Int × (Int × Bool))) × (Int × (Int × (Int × (Int × Int)))))) : Bool := (iGt x0.2.2.2.1 0)
noncomputable def lf_spec_l4Draw_1 (x : (List (Int) × Int × Int) × Int × Int × Int) (x0 : ((List (Int × (Int × Bool))) × (Int × (Int × (Int × (Int × Int)))))) : ((List (Int × (Int × Bool))) × (Int × (Int × (Int × (Int × Int))))) := ((lApp x0.1 [((iAdd Go.IntKind.i64 x0.2.1 (v_spec_l1PickInt ((x.1.1, x0.2.2.2.2), [0, 0, 1, (iQuo Go.IntKind.i64 x.2.2.2 3), (iSub Go.IntKind.i64 x.2.2.2 1), x.2.2.2, (iAdd Go.IntKind.i64 x.2.2.2 1), (iQuo Go.IntKind.i64 x.2.2.2 2)])).1), (v_spec_l1Below ((x.1.1, (v_spec_l1PickInt ((x.1.1, x0.2.2.2.2), [0, 0, 1, (iQuo Go.IntKind.i64 x.2.2.2 3), (iSub Go.IntKind.i64 x.2.2.2 1), x.2.2.2, (iAdd Go.IntKind.i64 x.2.2.2 1), (iQuo Go.IntKind.i64 x.2.2.2 2)])).2), x.2.1)).1, (iEq (iAnd Go.IntKind.i64 (iShr Go.IntKind.i64 (iXor Go.IntKind.i64 x0.2.2.1 (iShl Go.IntKind.i64 1 (v_spec_l1Below ((x.1.1, (v_spec_l1PickInt ((x.1.1, x0.2.2.2.2), [0, 0, 1, (iQuo Go.IntKind.i64 x.2.2.2 3), (iSub Go.IntKind.i64 x.2.2.2 1), x.2.2.2, (iAdd Go.IntKind.i64 x.2.2.2 1), (iQuo Go.IntKind.i64 x.2.2.2 2)])).2), x.2.1)).1)) (v_spec_l1Below ((x.1.1, (v_spec_l1PickInt ((x.1.1, x0.2.2.2.2), [0, 0, 1, (iQuo Go.IntKind.i64 x.2.2.2 3), (iSub Go.IntKind.i64 x.2.2.2 1), x.2.2.2, (iAdd Go.IntKind.i64 x.2.2.2 1), (iQuo Go.IntKind.i64 x.2.2.2 2)])).2), x.2.1)).1) 1) 1))]), (iAdd Go.IntKind.i64 x0.2.1 (v_spec_l1PickInt ((x.1.1, x0.2.2.2.2), [0, 0, 1, (iQuo Go.IntKind.i64 x.2.2.2 3), (iSub Go.IntKind.i64 x.2.2.2 1), x.2.2.2, (iAdd Go.IntKind.i64 x.2.2.2 1), (iQuo Go.IntKind.i64 x.2.2.2 2)])).1), (iXor Go.IntKind.i64 x0.2.2.1 (iShl Go.IntKind.i64 1 (v_spec_l1Below ((x.1.1, (v_spec_l1PickInt ((x.1.1, x0.2.2.2.2), [0, 0, 1, (iQuo Go.IntKind.i64 x.2.2.2 3), (iSub Go.IntKind.i64 x.2.2.2 1), x.2.2.2, (iAdd Go.IntKind.i64 x.2.2.2 1), (iQuo Go.IntKind.i64 x.2.2.2 2)])).2), x.2.1)).1)), (iSub Go.IntKind.i64 x0.2.2.2.1 1), (v_spec_l1Below ((x.1.1, (v_spec_l1PickInt ((x.1.1, x0.2.2.2.2), [0, 0, 1, (iQuo Go.IntKind.i64 x.2.2.2 3), (iSub Go.IntKind.i64 x.2.2.2 1), x.2.2.2, (iAdd Go.IntKind.i64 x.2.2.2 1), (iQuo Go.IntKind.i64 x.2.2.2 2)])).2), x.2.1)).2)
noncomputable def lp_spec_l4Draw_1 (x : (List (Int) × Int × Int) × Int × Int × Int) (x0 : ((List (Int × (Int × Bool))) × (Int × (Int × (Int × (Int × Int)))))) : Prop := (((iGt x0.2.2.2.1 0) = true → (((3 : Int) ≠ 0) ∧ (((2 : Int) ≠ 0) ∧ ((ok_spec_l1PickInt ((x.1.1, x0.2.2.2.2), [0, 0, 1, (iQuo Go.IntKind.i64 x.2.2.2 3), (iSub Go.IntKind.i64 x.2.2.2 1), x.2.2.2, (iAdd Go.IntKind.i64 x.2.2.2 1), (iQuo Go.IntKind.i64 x.2.2.2 2)])) ∧ ((ok_spec_l1Below ((x.1.1, (v_spec_l1PickInt ((x.1.1, x0.2.2.2.2), [0, 0, 1, (iQuo Go.IntKind.i64 x.2.2.2 3), (iSub Go.IntKind.i64 x.2.2.2 1), x.2.2.2, (iAdd Go.IntKind.i64 x.2.2.2 1), (iQuo Go.IntKind.i64 x.2.2.2 2)])).2), x.2.1)) ∧ (((0 : Int) ≤ (v_spec_l1Below ((x.1.1, (v_spec_l1PickInt ((x.1.1, x0.2.2.2.2), [0, 0, 1, (iQuo Go.IntKind.i64 x.2.2.2 3), (iSub Go.IntKind.i64 x.2.2.2 1), x.2.2.2, (iAdd Go.IntKind.i64 x.2.2.2 1), (iQuo Go.IntKind.i64 x.2.2.2 2)])).2), x.2.1)).1) ∧ (((0 : Int) ≤ (v_spec_l1Below ((x.1.1, (v_spec_l1PickInt ((x.1.1, x0.2.2.2.2), [0, 0, 1, (iQuo Go.IntKind.i64 x.2.2.2 3), (iSub Go.IntKind.i64 x.2.2.2 1), x.2.2.2, (iAdd Go.IntKind.i64 x.2.2.2 1), (iQuo Go.IntKind.i64 x.2.2.2 2)])).2), x.2.1)).1) ∧ (roomy (((List.length x0.1) + (List.length [((iAdd Go.IntKind.i64 x0.2.1 (v_spec_l1PickInt ((x.1.1, x0.2.2.2.2), [0, 0, 1, (iQuo Go.IntKind.i64 x.2.2.2 3), (iSub Go.IntKind.i64 x.2.2.2 1), x.2.2.2, (iAdd Go.IntKind.i64 x.2.2.2 1), (iQuo Go.IntKind.i64 x.2.2.2 2)])).1), (v_spec_l1Below ((x.1.1, (v_spec_l1PickInt ((x.1.1, x0.2.2.2.2), [0, 0, 1, (iQuo Go.IntKind.i64 x.2.2.2 3), (iSub Go.IntKind.i64 x.2.2.2 1), x.2.2.2, (iAdd Go.IntKind.i64 x.2.2.2 1), (iQuo Go.IntKind.i64 x.2.2.2 2)])).2), x.2.1)).1, (iEq (iAnd Go.IntKind.i64 (iShr Go.IntKind.i64 (iXor Go.IntKind.i64 x0.2.2.1 (iShl Go.IntKind.i64 1 (v_spec_l1Below ((x.1.1, (v_spec_l1PickInt ((x.1.1, x0.2.2.2.2), [0, 0, 1, (iQuo Go.IntKind.i64 x.2.2.2 3), (iSub Go.IntKind.i64 x.2.2.2 1), x.2.2.2, (iAdd Go.IntKind.i64 x.2.2.2 1), (iQuo Go.IntKind.i64 x.2.2.2 2)])).2), x.2.1)).1)) (v_spec_l1Below ((x.1.1, (v_spec_l1PickInt ((x.1.1, x0.2.2.2.2), [0, 0, 1, (iQuo Go.IntKind.i64 x.2.2.2 3), (iSub Go.IntKind.i64 x.2.2.2 1), x.2.2.2, (iAdd Go.IntKind.i64 x.2.2.2 1), (iQuo Go.IntKind.i64 x.2.2.2 2)])).2), x.2.1)).1) 1) 1))])) * 3))))))))) ∧ ((iGt x0.2.2.2.1 0) = false → True))
theorem ve_spec_l4Draw (x : (List (Int) × Int × Int) × Int × Int × Int) : v_spec_l4Draw x = ((loopV lc_spec_l4Draw_1 (lf_spec_l4Draw_1 x) ([], 0, 0, (v_spec_l1Below (x.1, (iAdd Go.IntKind.i64 x.2.2.1 1))))).1, (loopV lc_spec_l4Draw_1 (lf_spec_l4Draw_1 x) ([], 0, 0, (v_spec_l1Below (x.1, (iAdd Go.IntKind.i64 x.2.2.1 1))))).2.2.2.2) := (vu_spec_l4Draw x).trans (by kernel_rfl)
theorem oe_spec_l4Draw (x : (List (Int) × Int × Int) × Int × Int × Int) : ok_spec_l4Draw x = ((ok_spec_l1Below (x.1, (iAdd Go.IntKind.i64 x.2.2.1 1))) ∧ (LoopOk lc_spec_l4Draw_1 (lf_spec_l4Draw_1 x) (lp_spec_l4Draw_1 x) ([], 0, 0, (v_spec_l1Below (x.1, (iAdd Go.IntKind.i64 x.2.2.1 1)))))) := (ou_spec_l4Draw x).trans (by kernel_rfl)
theorem ve_spec_DrawChoiceOf (x : List (Int)) : v_spec_DrawChoiceOf x = ((v_spec_l10Timing (v_spec_l1New x)).1, (iSub Go.IntKind.i64 (v_spec_l1Below (((v_spec_l1New x).1, (bSel (bAnd (iGt (lLen (v_spec_l4Draw (((v_spec_l1New x).1, (v_spec_l10Timing (v_spec_l1New x)).2), 3, 5, (v_spec_l10Timing (v_spec_l1New x)).1.1)).1) 0) (v_spec_l1Once (((v_spec_l1New x).1, (v_spec_l4Draw (((v_spec_l1New x).1, (v_spec_l10Timing (v_spec_l1New x)).2), 3, 5, (v_spec_l10Timing (v_spec_l1New x)).1.1)).2), 12)).1) (v_spec_l1PickInt (((v_spec_l1New x).1, (v_spec_l1Below (((v_spec_l1New x).1, (bSel (iGt (lLen (v_spec_l4Draw (((v_spec_l1New x).1, (v_spec_l10Timing (v_spec_l1New x)).2), 3, 5, (v_spec_l10Timing (v_spec_l1New x)).1.1)).1) 0) (v_spec_l1Once (((v_spec_l1New x).1, (v_spec_l4Draw (((v_spec_l1New x).1, (v_spec_l10Timing (v_spec_l1New x)).2), 3, 5, (v_spec_l10Timing (v_spec_l1New x)).1.1)).2), 12)).2.1 (v_spec_l4Draw (((v_spec_l1New x).1, (v_spec_l10Timing (v_spec_l1New x)).2), 3, 5, (v_spec_l10Timing (v_spec_l1New x)).1.1)).2.1), (bSel (iGt (lLen (v_spec_l4Draw (((v_spec_l1New x).1, (v_spec_l10Timing (v_spec_l1New x)).2), 3, 5, (v_spec_l10Timing (v_spec_l1New x)).1.1)).1) 0) (v_spec_l1Once (((v_spec_l1New x).1, (v_spec_l4Draw (((v_spec_l1New x).1, (v_spec_l10Timing (v_spec_l1New x)).2), 3, 5, (v_spec_l10Timing (v_spec_l1New x)).1.1)).2), 12)).2.2 (v_spec_l4Draw (((v_spec_l1New x).1, (v_spec_l10Timing (v_spec_l1New x)).2), 3, 5, (v_spec_l10Timing (v_spec_l1New x)).1.1)).2.2)), (lLen (v_spec_l4Draw (((v_spec_l1New x).1, (v_spec_l10Timing (v_spec_l1New x)).2), 3, 5, (v_spec_l10Timing (v_spec_l1New x)).1.1)).1))).2), [(-1), 1000001])).2.1 (bSel (iGt (lLen (v_spec_l4Draw (((v_spec_l1New x).1, (v_spec_l10Timing (v_spec_l1New x)).2), 3, 5, (v_spec_l10Timing (v_spec_l1New x)).1.1)).1) 0) (v_spec_l1Once (((v_spec_l1New x).1, (v_spec_l4Draw (((v_spec_l1New x).1, (v_spec_l10Timing (v_spec_l1New x)).2), 3, 5, (v_spec_l10Timing (v_spec_l1New x)).1.1)).2), 12)).2.1 (v_spec_l4Draw (((v_spec_l1New x).1, (v_spec_l10Timing (v_spec_l1New x)).2), 3, 5, (v_spec_l10Timing (v_spec_l1New x)).1.1)).2.1)), (bSel (bAnd (iGt (lLen (v_spec_l4Draw (((v_spec_l1New x).1, (v_spec_l10Timing (v_spec_l1New x)).2), 3, 5, (v_spec_l10Timing (v_spec_l1New x)).1.1)).1) 0) (v_spec_l1Once (((v_spec_l1New x).1, (v_spec_l4Draw (((v_spec_l1New x).1, (v_spec_l10Timing (v_spec_l1New x)).2), 3, 5, (v_spec_l10Timing (v_spec_l1New x)).1.1)).2), 12)).1) (v_spec_l1PickInt (((v_spec_l1New x).1, (v_spec_l1Below (((v_spec_l1New x).1, (bSel (iGt (lLen (v_spec_l4Draw (((v_spec_l1New x).1, (v_spec_l10Timing (v_spec_l1New x)).2), 3, 5, (v_spec_l10Timing (v_spec_l1New x)).1.1)).1) 0) (v_spec_l1Once (((v_spec_l1New x).1, (v_spec_l4Draw (((v_spec_l1New x).1, (v_spec_l10Timing (v_spec_l1New x)).2), 3, 5, (v_spec_l10Timing (v_spec_l1New x)).1.1)).2), 12)).2.1 (v_spec_l4Draw (((v_spec_l1New x).1, (v_spec_l10Timing (v_spec_l1New x)).2), 3, 5, (v_spec_l10Timing (v_spec_l1New x)).1.1)).2.1), (bSel (iGt (lLen (v_spec_l4Draw (((v_spec_l1New x).1, (v_spec_l10Timing (v_spec_l1New x)).2), 3, 5, (v_spec_l10Timing (v_spec_l1New x)).1.1)).1) 0) (v_spec_l1Once (((v_spec_l1New x).1, (v_spec_l4Draw (((v_spec_l1New x).1, (v_spec_l10Timing (v_spec_l1New x)).2), 3, 5, (v_spec_l10Timing (v_spec_l1New x)).1.1)).2), 12)).2.2 (v_spec_l4Draw (((v_spec_l1New x).1, (v_spec_l10Timing (v_spec_l1New x)).2), 3, 5, (v_spec_l10Timing (v_spec_l1New x)).1.1)).2.2)), (lLen (v_spec_l4Draw (((v_spec_l1New x).1, (v_spec_l10Timing (v_spec_l1New x)).2), 3, 5, (v_spec_l10Timing (v_spec_l1New x)).1.1)).1))).2), [(-1), 1000001])).2.2 (bSel (iGt (lLen (v_spec_l4Draw (((v_spec_l1New x).1, (v_spec_l10Timing (v_spec_l1New x)).2), 3, 5, (v_spec_l10Timing (v_spec_l1New x)).1.1)).1) 0) (v_spec_l1Once (((v_spec_l1New x).1, (v_spec_l4Draw (((v_spec_l1New x).1, (v_spec_l10Timing (v_spec_l1New x)).2), 3, 5, (v_spec_l10Timing (v_spec_l1New x)).1.1)).2), 12)).2.2 (v_spec_l4Draw (((v_spec_l1New x).1, (v_spec_l10Timing (v_spec_l1New x)).2), 3, 5, (v_spec_l10Timing (v_spec_l1New x)).1.1)).2.2))), 4)).1 1), (v_spec_l1PickInt (((v_spec_l1New x).1, (v_spec_l1Below (((v_spec_l1New x).1, (bSel (bAnd (iGt (lLen (v_spec_l4Draw (((v_spec_l1New x).1, (v_spec_l10Timing (v_spec_l1New x)).2), 3, 5, (v_spec_l10Timing (v_spec_l1New x)).1.1)).1) 0) (v_spec_l1Once (((v_spec_l1New x).1, (v_spec_l4Draw (((v_spec_l1New x).1, (v_spec_l10Timing (v_spec_l1New x)).2), 3, 5, (v_spec_l10Timing (v_spec_l1New x)).1.1)).2), 12)).1) (v_spec_l1PickInt (((v_spec_l1New x).1, (v_spec_l1Below (((v_spec_l1New x).1, (bSel (iGt (lLen (v_spec_l4Draw (((v_spec_l1New x).1, (v_spec_l10Timing (v_spec_l1New x)).2), 3, 5, (v_spec_l10Timing (v_spec_l1New x)).1.1)).1) 0) (v_spec_l1Once (((v_spec_l1New x).1, (v_spec_l4Draw (((v_spec_l1New x).1, (v_spec_l10Timing (v_spec_l1New x)).2), 3, 5, (v_spec_l10Timing (v_spec_l1New x)).1.1)).2), 12)).2.1 (v_spec_l4Draw (((v_spec_l1New x).1, (v_spec_l10Timing (v_spec_l1New x)).2), 3, 5, (v_spec_l10Timing (v_spec_l1New x)).1.1)).2.1), (bSel (iGt (lLen (v_spec_l4Draw (((v_spec_l1New x).1, (v_spec_l10Timing (v_spec_l1New x)).2), 3, 5, (v_spec_l10Timing (v_spec_l1New x)).1.1)).1) 0) (v_spec_l1Once (((v_spec_l1New x).1, (v_spec_l4Draw (((v_spec_l1New x).1, (v_spec_l10Timing (v_spec_l1New x)).2), 3, 5, (v_spec_l10Timing (v_spec_l1New x)).1.1)).2), 12)).2.2 (v_spec_l4Draw (((v_spec_l1New x).1, (v_spec_l10Timing (v_spec_l1New x)).2), 3, 5, (v_spec_l10Timing (v_spec_l1New x)).1.1)).2.2)), (lLen (v_spec_l4Draw (((v_spec_l1New x).1, (v_spec_l10Timing (v_spec_l1New x)).2), 3, 5, (v_spec_l10Timing (v_spec_l1New x)).1.1)).1))).2), [(-1), 1000001])).2.1 (bSel (iGt (lLen (v_spec_l4Draw (((v_spec_l1New x).1, (v_spec_l10Timing (v_spec_l1New x)).2), 3, 5, (v_spec_l10Timing (v_spec_l1New x)).1.1)).1) 0) (v_spec_l1Once (((v_spec_l1New x).1, (v_spec_l4Draw (((v_spec_l1New x).1, (v_spec_l10Timing (v_spec_l1New x)).2), 3, 5, (v_spec_l10Timing (v_spec_l1New x)).1.1)).2), 12)).2.1 (v_spec_l4Draw (((v_spec_l1New x).1, (v_spec_l10Timing (v_spec_l1New x)).2), 3, 5, (v_spec_l10Timing (v_spec_l1New x)).1.1)).2.1)), (bSel (bAnd (iGt (lLen (v_spec_l4Draw (((v_spec_l1New x).1, (v_spec_l10Timing (v_spec_l1New x)).2), 3, 5, (v_spec_l10Timing (v_spec_l1New x)).1.1)).1) 0) (v_spec_l1Once (((v_spec_l1New x).1, (v_spec_l4Draw (((v_spec_l1New x).1, (v_spec_l10Timing (v_spec_l1New x)).2), 3, 5, (v_spec_l10Timing (v_spec_l1New x)).1.1)).2), 12)).1) (v_spec_l1PickInt (((v_spec_l1New x).1, (v_spec_l1Below (((v_spec_l1New x).1, (bSel (iGt (lLen (v_spec_l4Draw (((v_spec_l1New x).1, (v_spec_l10Timing (v_spec_l1New x)).2), 3, 5, (v_spec_l10Timing (v_spec_l1New x)).1.1)).1) 0) (v_spec_l1Once (((v_spec_l1New x).1, (v_spec_l4Draw (((v_spec_l1New x).1, (v_spec_l10Timing (v_spec_l1New x)).2), 3, 5, (v_spec_l10Timing (v_spec_l1New x)).1.1)).2), 12)).2.1 (v_spec_l4Draw (((v_spec_l1New x).1, (v_spec_l10Timing (v_spec_l1New x)).2), 3, 5, (v_spec_l10Timing (v_spec_l1New x)).1.1)).2.1), (bSel (iGt (lLen (v_spec_l4Draw (((v_spec_l1New x).1, (v_spec_l10Timing (v_spec_l1New x)).2), 3, 5, (v_spec_l10Timing (v_spec_l1New x)).1.1)).1) 0) (v_spec_l1Once (((v_spec_l1New x).1, (v_spec_l4Draw (((v_spec_l1New x).1, (v_spec_l10Timing (v_spec_l1New x)).2), 3, 5, (v_spec_l10Timing (v_spec_l1New x)).1.1)).2), 12)).2.2 (v_spec_l4Draw (((v_spec_l1New x).1, (v_spec_l10Timing (v_spec_l1New x)).2), 3, 5, (v_spec_l10Timing (v_spec_l1New x)).1.1)).2.2)), (lLen (v_spec_l4Draw (((v_spec_l1New x).1, (v_spec_l10Timing (v_spec_l1New x)).2), 3, 5, (v_spec_l10Timing (v_spec_l1New x)).1.1)).1))).2), [(-1), 1000001])).2.2 (bSel (iGt (lLen (v_spec_l4Draw (((v_spec_l1New x).1, (v_spec_l10Timing (v_spec_l1New x)).2), 3, 5, (v_spec_l10Timing (v_spec_l1New x)).1.1)).1) 0) (v_spec_l1Once (((v_spec_l1New x).1, (v_spec_l4Draw (((v_spec_l1New x).1, (v_spec_l10Timing (v_spec_l1New x)).2), 3, 5, (v_spec_l10Timing (v_spec_l1New x)).1.1)).2), 12)).2.2 (v_spec_l4Draw (((v_spec_l1New x).1, (v_spec_l10Timing (v_spec_l1New x)).2), 3, 5, (v_spec_l10Timing (v_spec_l1New x)).1.1)).2.2))), 4)).2), [0, 0, 1, (-1), 1000000, 1000001])).1, (bSel (bAnd (iGt (lLen (v_spec_l4Draw (((v_spec_l1New x).1, (v_spec_l10Timing (v_spec_l1New x)).2), 3, 5, (v_spec_l10Timing (v_spec_l1New x)).1.1)).1) 0) (v_spec_l1Once (((v_spec_l1New x).1, (v_spec_l4Draw (((v_spec_l1New x).1, (v_spec_l10Timing (v_spec_l1New x)).2), 3, 5, (v_spec_l10Timing (v_spec_l1New x)).1.1)).2), 12)).1) (lSet (v_spec_l4Draw (((v_spec_l1New x).1, (v_spec_l10Timing (v_spec_l1New x)).2), 3, 5, (v_spec_l10Timing (v_spec_l1New x)).1.1)).1 (iNat (v_spec_l1Below (((v_spec_l1New x).1, (bSel (iGt (lLen (v_spec_l4Draw (((v_spec_l1New x).1, (v_spec_l10Timing (v_spec_l1New x)).2), 3, 5, (v_spec_l10Timing (v_spec_l1New x)).1.1)).1) 0) (v_spec_l1Once (((v_spec_l1New x).1, (v_spec_l4Draw (((v_spec_l1New x).1, (v_spec_l10Timing (v_spec_l1New x)).2), 3, 5, (v_spec_l10Timing (v_spec_l1New x)).1.1)).2), 12)).2.1 (v_spec_l4Draw (((v_spec_l1New x).1, (v_spec_l10Timing (v_spec_l1New x)).2), 3, 5, (v_spec_l10Timing (v_spec_l1New x)).1.1)).2.1), (bSel (iGt (lLen (v_spec_l4Draw (((v_spec_l1New x).1, (v_spec_l10Timing (v_spec_l1New x)).2), 3, 5, (v_spec_l10Timing (v_spec_l1New x)).1.1)).1) 0) (v_spec_l1Once (((v_spec_l1New x).1, (v_spec_l4Draw (((v_spec_l1New x).1, (v_spec_l10Timing (v_spec_l1New x)).2), 3, 5, (v_spec_l10Timing (v_spec_l1New x)).1.1)).2), 12)).2.2 (v_spec_l4Draw (((v_spec_l1New x).1, (v_spec_l10Timing (v_spec_l1New x)).2), 3, 5, (v_spec_l10Timing (v_spec_l1New x)).1.1)).2.2)), (lLen (v_spec_l4Draw (((v_spec_l1New x).1, (v_spec_l10Timing (v_spec_l1New x)).2), 3, 5, (v_spec_l10Timing (v_spec_l1New x)).1.1)).1))).1) ((v_spec_l1PickInt (((v_spec_l1New x).1, (v_spec_l1Below (((v_spec_l1New x).1, (bSel (iGt (lLen (v_spec_l4Draw (((v_spec_l1New x).1, (v_spec_l10Timing (v_spec_l1New x)).2), 3, 5, (v_spec_l10Timing (v_spec_l1New x)).1.1)).1) 0) (v_spec_l1Once (((v_spec_l1New x).1, (v_spec_l4Draw (((v_spec_l1New x).1, (v_spec_l10Timing (v_spec_l1New x)).2), 3, 5, (v_spec_l10Timing (v_spec_l1New x)).1.1)).2), 12)).2.1 (v_spec_l4Draw (((v_spec_l1New x).1, (v_spec_l10Timing (v_spec_l1New x)).2), 3, 5, (v_spec_l10Timing (v_spec_l1New x)).1.1)).2.1), (bSel (iGt (lLen (v_spec_l4Draw (((v_spec_l1New x).1, (v_spec_l10Timing (v_spec_l1New x)).2), 3, 5, (v_spec_l10Timing (v_spec_l1New x)).1.1)).1) 0) (v_spec_l1Once (((v_spec_l1New x).1, (v_spec_l4Draw (((v_spec_l1New x).1, (v_spec_l10Timing (v_spec_l1New x)).2), 3, 5, (v_spec_l10Timing (v_spec_l1New x)).1.1)).2), 12)).2.2 (v_spec_l4Draw (((v_spec_l1New x).1, (v_spec_l10Timing (v_spec_l1New x)).2), 3, 5, (v_spec_l10Timing (v_spec_l1New x)).1.1)).2.2)), (lLen (v_spec_l4Draw (((v_spec_l1New x).1, (v_spec_l10Timing (v_spec_l1New x)).2), 3, 5, (v_spec_l10Timing (v_spec_l1New x)).1.1)).1))).2), [(-1), 1000001])).1, (lGet (v_spec_l4Draw (((v_spec_l1New x).1, (v_spec_l10Timing (v_spec_l1New x)).2), 3, 5, (v_spec_l10Timing (v_spec_l1New x)).1.1)).1 (iNat (v_spec_l1Below (((v_spec_l1New x).1, (bSel (iGt (lLen (v_spec_l4Draw (((v_spec_l1New x).1, (v_spec_l10Timing (v_spec_l1New x)).2), 3, 5, (v_spec_l10Timing (v_spec_l1New x)).1.1)).1) 0) (v_spec_l1Once (((v_spec_l1New x).1, (v_spec_l4Draw (((v_spec_l1New x).1, (v_spec_l10Timing (v_spec_l1New x)).2), 3, 5, (v_spec_l10Timing (v_spec_l1New x)).1.1)).2), 12)).2.1 (v_spec_l4Draw (((v_spec_l1New x).1, (v_spec_l10Timing (v_spec_l1New x)).2), 3, 5, (v_spec_l10Timing (v_spec_l1New x)).1.1)).2.1), (bSel (iGt (lLen (v_spec_l4Draw (((v_spec_l1New x).1, (v_spec_l10Timing (v_spec_l1New x)).2), 3, 5, (v_spec_l10Timing (v_spec_l1New x)).1.1)).1) 0) (v_spec_l1Once (((v_spec_l1New x).1, (v_spec_l4Draw (((v_spec_l1New x).1, (v_spec_l10Timing (v_spec_l1New x)).2), 3, 5, (v_spec_l10Timing (v_spec_l1New x)).1.1)).2), 12)).2.2 (v_spec_l4Draw (((v_spec_l1New x).1, (v_spec_l10Timing (v_spec_l1New x)).2), 3, 5, (v_spec_l10Timing (v_spec_l1New x)).1.1)).2.2)), (lLen (v_spec_l4Draw (((v_spec_l1New x).1, (v_spec_l10Timing (v_spec_l1New x)).2), 3, 5, (v_spec_l10Timing (v_spec_l1New x)).1.1)).1))).1) (0, 0, false)).2)) (v_spec_l4Draw (((v_spec_l1New x).1, (v_spec_l10Timing (v_spec_l1New x)).2), 3, 5, (v_spec_l10Timing (v_spec_l1New x)).1.1)).1), (v_spec_l1PickInt (((v_spec_l1New x).1, (v_spec_l1PickInt (((v_spec_l1New x).1, (v_spec_l1Below (((v_spec_l1New x).1, (bSel (bAnd (iGt (lLen (v_spec_l4Draw (((v_spec_l1New x).1, (v_spec_l10Timing (v_spec_l1New x)).2), 3, 5, (v_spec_l10Timing (v_spec_l1New x)).1.1)).1) 0) (v_spec_l1Once (((v_spec_l1New x).1, (v_spec_l4Draw (((v_spec_l1New x).1, (v_spec_l10Timing (v_spec_l1New x)).2), 3, 5, (v_spec_l10Timing (v_spec_l1New x)).1.1)).2), 12)).1) (v_spec_l1PickInt (((v_spec_l1New x).1, (v_spec_l1Below (((v_spec_l1New x).1, (bSel (iGt (lLen (v_spec_l4Draw (((v_spec_l1New x).1, (v_spec_l10Timing (v_spec_l1New x)).2), 3, 5, (v_spec_l10Timing (v_spec_l1New x)).1.1)).1) 0) (v_spec_l1Once (((v_spec_l1New x).1, (v_spec_l4Draw (((v_spec_l1New x).1, (v_spec_l10Timing (v_spec_l1New x)).2), 3, 5, (v_spec_l10Timing (v_spec_l1New x)).1.1)).2), 12)).2.1 (v_spec_l4Draw (((v_spec_l1New x).1, (v_spec_l10Timing (v_spec_l1New x)).2), 3, 5, (v_spec_l10Timing (v_spec_l1New x)).1.1)).2.1), (bSel (iGt (lLen (v_spec_l4Draw (((v_spec_l1New x).1, (v_spec_l10Timing (v_spec_l1New x)).2), 3, 5, (v_spec_l10Timing (v_spec_l1New x)).1.1)).1) 0) (v_spec_l1Once (((v_spec_l1New x).1, (v_spec_l4Draw (((v_spec_l1New x).1, (v_spec_l10Timing (v_spec_l1New x)).2), 3, 5, (v_spec_l10Timing (v_spec_l1New x)).1.1)).2), 12)).2.2 (v_spec_l4Draw (((v_spec_l1New x).1, (v_spec_l10Timing (v_spec_l1New x)).2), 3, 5, (v_spec_l10Timing (v_spec_l1New x)).1.1)).2.2)), (lLen (v_spec_l4Draw (((v_spec_l1New x).1, (v_spec_l10Timing (v_spec_l1New x)).2), 3, 5, (v_spec_l10Timing (v_spec_l1New x)).1.1)).1))).2), [(-1), 1000001])).2.1 (bSel (iGt (lLen (v_spec_l4Draw (((v_spec_l1New x).1, (v_spec_l10Timing (v_spec_l1New x)).2), 3, 5, (v_spec_l10Timing (v_spec_l1New x)).1.1)).1) 0) (v_spec_l1Once (((v_spec_l1New x).1, (v_spec_l4Draw (((v_spec_l1New x).1, (v_spec_l10Timing (v_spec_l1New x)).2), 3, 5, (v_spec_l10Timing (v_spec_l1New x)).1.1)).2), 12)).2.1 (v_spec_l4Draw (((v_spec_l1New x).1, (v_spec_l10Timing (v_spec_l1New x)).2), 3, 5, (v_spec_l10Timing (v_spec_l1New x)).1.1)).2.1)), (bSel (bAnd (iGt (lLen (v_spec_l4Draw (((v_spec_l1New x).1, (v_spec_l10Timing (v_spec_l1New x)).2), 3, 5, (v_spec_l10Timing (v_spec_l1New x)).1.1)).1) 0) (v_spec_l1Once (((v_spec_l1New x).1, (v_spec_l4Draw (((v_spec_l1New x).1, (v_spec_l10Timing (v_spec_l1New x)).2), 3, 5, (v_spec_l10Timing (v_spec_l1New x)).1.1)).2), 12)).1) (v_spec_l1PickInt (((v_spec_l1New x).1, (v_spec_l1Below (((v_spec_l1New x).1, (bSel (iGt (lLen (v_spec_l4Draw (((v_spec_l1New x).1, (v_spec_l10Timing (v_spec_l1New x)).2), 3, 5, (v_spec_l10Timing (v_spec_l1New x)).1.1)).1) 0) (v_spec_l1Once (((v_spec_l1New x).1, (v_spec_l4Draw (((v_spec_l1New x).1, (v_spec_l10Timing (v_spec_l1New x)).2), 3, 5, (v_spec_l10Timing (v_spec_l1New x)).1.1)).2), 12)).2.1 (v_spec_l4Draw (((v_spec_l1New x).1, (v_spec_l10Timing (v_spec_l1New x)).2), 3, 5, (v_spec_l10Timing (v_spec_l1New x)).1.1)).2.1), (bSel (iGt (lLen (v_spec_l4Draw (((v_spec_l1New x).1, (v_spec_l10Timing (v_spec_l1New x)).2), 3, 5, (v_spec_l10Timing (v_spec_l1New x)).1.1)).1) 0) (v_spec_l1Once (((v_spec_l1New x).1, (v_spec_l4Draw (((v_spec_l1New x).1, (v_spec_l10Timing (v_spec_l1New x)).2), 3, 5, (v_spec_l10Timing (v_spec_l1New x)).1.1)).2), 12)).2.2 (v_spec_l4Draw (((v_spec_l1New x).1, (v_spec_l10Timing (v_spec_l1New x)).2), 3, 5, (v_spec_l10Timing (v_spec_l1New x)).1.1)).2.2)), (lLen (v_spec_l4Draw (((v_spec_l1New x).1, (v_spec_l10Timing (v_spec_l1New x)).2), 3, 5, (v_spec_l10Timing (v_spec_l1New x)).1.1)).1))).2), [(-1), 1000001])).2.2 (bSel (iGt (lLen (v_spec_l4Draw (((v_spec_l1New x).1, (v_spec_l10Timing (v_spec_l1New x)).2), 3, 5, (v_spec_l10Timing (v_spec_l1New x)).1.1)).1) 0) (v_spec_l1Once (((v_spec_l1New x).1, (v_spec_l4Draw (((v_spec_l1New x).1, (v_spec_l10Timing (v_spec_l1New x)).2), 3, 5, (v_spec_l10Timing (v_spec_l1New x)).1.1)).2), 12)).2.2 (v_spec_l4Draw (((v_spec_l1New x).1, (v_spec_l10Timing (v_spec_l1New x)).2), 3, 5, (v_spec_l10Timing (v_spec_l1New x)).1.1)).2.2))), 4)).2), [0, 0, 1, (-1), 1000000, 1000001])).2), [0, 3, 9, 20, 60, (-1)])).1) := (vu_spec_DrawChoiceOf x).trans (by kernel_rfl)
theorem oe_spec_DrawChoiceOf (x : List (Int)) : ok_spec_DrawChoiceOf x = ((ok_spec_l1New x) ∧ ((ok_spec_l10Timing (v_spec_l1New x)) ∧ ((ok_spec_l4Draw (((v_spec_l1New x).1, (v_spec_l10Timing (v_spec_l1New x)).2), 3, 5, (v_spec_l10Timing (v_spec_l1New x)).1.1)) ∧ (((((iGt (lLen (v_spec_l4Draw (((v_spec_l1New x).1, (v_spec_l10Timing (v_spec_l1New x)).2), 3, 5, (v_spec_l10Timing (v_spec_l1New x)).1.1)).1) 0) = true → (ok_spec_l1Once (((v_spec_l1New x).1, (v_spec_l4Draw (((v_spec_l1New x).1, (v_spec_l10Timing (v_spec_l1New x)).2), 3, 5, (v_spec_l10Timing (v_spec_l1New x)).1.1)).2), 12))) ∧ ((iGt (lLen (v_spec_l4Draw (((v_spec_l1New x).1, (v_spec_l10Timing (v_spec_l1New x)).2), 3, 5, (v_spec_l10Timing (v_spec_l1New x)).1.1)).1) 0) = false → True)) ∧ (((bAnd (iGt (lLen (v_spec_l4Draw (((v_spec_l1New x).1, (v_spec_l10Timing (v_spec_l1New x)).2), 3, 5, (v_spec_l10Timing (v_spec_l1New x)).1.1)).1) 0) (v_spec_l1Once (((v_spec_l1New x).1, (v_spec_l4Draw (((v_spec_l1New x).1, (v_spec_l10Timing (v_spec_l1New x)).2), 3, 5, (v_spec_l10Timing (v_spec_l1New x)).1.1)).2), 12)).1) = true → ((ok_spec_l1Below (((v_spec_l1New x).1, (bSel (iGt (lLen (v_spec_l4Draw (((v_spec_l1New x).1, (v_spec_l10Timing (v_spec_l1New x)).2), 3, 5, (v_spec_l10Timing (v_spec_l1New x)).1.1)).1) 0) (v_spec_l1Once (((v_spec_l1New x).1, (v_spec_l4Draw (((v_spec_l1New x).1, (v_spec_l10Timing (v_spec_l1New x)).2), 3, 5, (v_spec_l10Timing (v_spec_l1New x)).1.1)).2), 12)).2.1 (v_spec_l4Draw (((v_spec_l1New x).1, (v_spec_l10Timing (v_spec_l1New x)).2), 3, 5, (v_spec_l10Timing (v_spec_l1New x)).1.1)).2.1), (bSel (iGt (lLen (v_spec_l4Draw (((v_spec_l1New x).1, (v_spec_l10Timing (v_spec_l1New x)).2), 3, 5, (v_spec_l10Timing (v_spec_l1New x)).1.1)).1) 0) (v_spec_l1Once (((v_spec_l1New x).1, (v_spec_l4Draw (((v_spec_l1New x).1, (v_spec_l10Timing (v_spec_l1New x)).2), 3, 5, (v_spec_l10Timing (v_spec_l1New x)).1.1)).2), 12)).2.2 (v_spec_l4Draw (((v_spec_l1New x).1, (v_spec_l10Timing (v_spec_l1New x)).2), 3, 5, (v_spec_l10Timing (v_spec_l1New x)).1.1)).2.2)), (lLen (v_spec_l4Draw (((v_spec_l1New x).1, (v_spec_l10Timing (v_spec_l1New x)).2), 3, 5, (v_spec_l10Timing (v_spec_l1New x)).1.1)).1))) ∧ ((ok_spec_l1PickInt (((v_spec_l1New x).1, (v_spec_l1Below (((v_spec_l1New x).1, (bSel (iGt (lLen (v_spec_l4Draw (((v_spec_l1New x).1, (v_spec_l10Timing (v_spec_l1New x)).2), 3, 5, (v_spec_l10Timing (v_spec_l1New x)).1.1)).1) 0) (v_spec_l1Once (((v_spec_l1New x).1, (v_spec_l4Draw (((v_spec_l1New x).1, (v_spec_l10Timing (v_spec_l1New x)).2), 3, 5, (v_spec_l10Timing (v_spec_l1New x)).1.1)).2), 12)).2.1 (v_spec_l4Draw (((v_spec_l1New x).1, (v_spec_l10Timing (v_spec_l1New x)).2), 3, 5, (v_spec_l10Timing (v_spec_l1New x)).1.1)).2.1), (bSel (iGt (lLen (v_spec_l4Draw (((v_spec_l1New x).1, (v_spec_l10Timing (v_spec_l1New x)).2), 3, 5, (v_spec_l10Timing (v_spec_l1New x)).1.1)).1) 0) (v_spec_l1Once (((v_spec_l1New x).1, (v_spec_l4Draw (((v_spec_l1New x).1, (v_spec_l10Timing (v_spec_l1New x)).2), 3, 5, (v_spec_l10Timing (v_spec_l1New x)).1.1)).2), 12)).2.2 (v_spec_l4Draw (((v_spec_l1New x).1, (v_spec_l10Timing (v_spec_l1New x)).2), 3, 5, (v_spec_l10Timing (v_spec_l1New x)).1.1)).2.2)), (lLen (v_spec_l4Draw (((v_spec_l1New x).1, (v_spec_l10Timing (v_spec_l1New x)).2), 3, 5, (v_spec_l10Timing (v_spec_l1New x)).1.1)).1))).2), [(-1), 1000001])) ∧ ((((0 : Int) ≤ (v_spec_l1Below (((v_spec_l1New x).1, (bSel (iGt (lLen (v_spec_l4Draw (((v_spec_l1New x).1, (v_spec_l10Timing (v_spec_l1New x)).2), 3, 5, (v_spec_l10Timing (v_spec_l1New x)).1.1)).1) 0) (v_spec_l1Once (((v_spec_l1New x).1, (v_spec_l4Draw (((v_spec_l1New x).1, (v_spec_l10Timing (v_spec_l1New x)).2), 3, 5, (v_spec_l10Timing (v_spec_l1New x)).1.1)).2), 12)).2.1 (v_spec_l4Draw (((v_spec_l1New x).1, (v_spec_l10Timing (v_spec_l1New x)).2), 3, 5, (v_spec_l10Timing (v_spec_l1New x)).1.1)).2.1), (bSel (iGt (lLen (v_spec_l4Draw (((v_spec_l1New x).1, (v_spec_l10Timing (v_spec_l1New x)).2), 3, 5, (v_spec_l10Timing (v_spec_l1New x)).1.1)).1) 0) (v_spec_l1Once (((v_spec_l1New x).1, (v_spec_l4Draw (((v_spec_l1New x).1, (v_spec_l10Timing (v_spec_l1New x)).2), 3, 5, (v_spec_l10Timing (v_spec_l1New x)).1.1)).2), 12)).2.2 (v_spec_l4Draw (((v_spec_l1New x).1, (v_spec_l10Timing (v_spec_l1New x)).2), 3, 5, (v_spec_l10Timing (v_spec_l1New x)).1.1)).2.2)), (lLen (v_spec_l4Draw (((v_spec_l1New x).1, (v_spec_l10Timing (v_spec_l1New x)).2), 3, 5, (v_spec_l10Timing (v_spec_l1New x)).1.1)).1))).1) ∧ ((v_spec_l1Below (((v_spec_l1New x).1, (bSel (iGt (lLen (v_spec_l4Draw (((v_spec_l1New x).1, (v_spec_l10Timing (v_spec_l1New x)).2), 3, 5, (v_spec_l10Timing (v_spec_l1New x)).1.1)).1) 0) (v_spec_l1Once (((v_spec_l1New x).1, (v_spec_l4Draw (((v_spec_l1New x).1, (v_spec_l10Timing (v_spec_l1New x)).2), 3, 5, (v_spec_l10Timing (v_spec_l1New x)).1.1)).2), 12)).2.1 (v_spec_l4Draw (((v_spec_l1New x).1, (v_spec_l10Timing (v_spec_l1New x)).2), 3, 5, (v_spec_l10Timing (v_spec_l1New x)).1.1)).2.1), (bSel (iGt (lLen (v_spec_l4Draw (((v_spec_l1New x).1, (v_spec_l10Timing (v_spec_l1New x)).2), 3, 5, (v_spec_l10Timing (v_spec_l1New x)).1.1)).1) 0) (v_spec_l1Once (((v_spec_l1New x).1, (v_spec_l4Draw (((v_spec_l1New x).1, (v_spec_l10Timing (v_spec_l1New x)).2), 3, 5, (v_spec_l10Timing (v_spec_l1New x)).1.1)).2), 12)).2.2 (v_spec_l4Draw (((v_spec_l1New x).1, (v_spec_l10Timing (v_spec_l1New x)).2), 3, 5, (v_spec_l10Timing (v_spec_l1New x)).1.1)).2.2)), (lLen (v_spec_l4Draw (((v_spec_l1New x).1, (v_spec_l10Timing (v_spec_l1New x)).2), 3, 5, (v_spec_l10Timing (v_spec_l1New x)).1.1)).1))).1 < (((List.length (v_spec_l4Draw (((v_spec_l1New x).1, (v_spec_l10Timing (v_spec_l1New x)).2), 3, 5, (v_spec_l10Timing (v_spec_l1New x)).1.1)).1) : Int)))) ∧ ((iNat (v_spec_l1Below (((v_spec_l1New x).1, (bSel (iGt (lLen (v_spec_l4Draw (((v_spec_l1New x).1, (v_spec_l10Timing (v_spec_l1New x)).2), 3, 5, (v_spec_l10Timing (v_spec_l1New x)).1.1)).1) 0) (v_spec_l1Once (((v_spec_l1New x).1, (v_spec_l4Draw (((v_spec_l1New x).1, (v_spec_l10Timing (v_spec_l1New x)).2), 3, 5, (v_spec_l10Timing (v_spec_l1New x)).1.1)).2), 12)).2.1 (v_spec_l4Draw (((v_spec_l1New x).1, (v_spec_l10Timing (v_spec_l1New x)).2), 3, 5, (v_spec_l10Timing (v_spec_l1New x)).1.1)).2.1), (bSel (iGt (lLen (v_spec_l4Draw (((v_spec_l1New x).1, (v_spec_l10Timing (v_spec_l1New x)).2), 3, 5, (v_spec_l10Timing (v_spec_l1New x)).1.1)).1) 0) (v_spec_l1Once (((v_spec_l1New x).1, (v_spec_l4Draw (((v_spec_l1New x).1, (v_spec_l10Timing (v_spec_l1New x)).2), 3, 5, (v_spec_l10Timing (v_spec_l1New x)).1.1)).2), 12)).2.2 (v_spec_l4Draw (((v_spec_l1New x).1, (v_spec_l10Timing (v_spec_l1New x)).2), 3, 5, (v_spec_l10Timing (v_spec_l1New x)).1.1)).2.2)), (lLen (v_spec_l4Draw (((v_spec_l1New x).1, (v_spec_l10Timing (v_spec_l1New x)).2), 3, 5, (v_spec_l10Timing (v_spec_l1New x)).1.1)).1))).1) < (List.length (v_spec_l4Draw (((v_spec_l1New x).1, (v_spec_l10Timing (v_spec_l1New x)).2), 3, 5, (v_spec_l10Timing (v_spec_l1New x)).1.1)).1)))))) ∧ ((bAnd (iGt (lLen (v_spec_l4Draw (((v_spec_l1New x).1, (v_spec_l10Timing (v_spec_l1New x)).2), 3, 5, (v_spec_l10Timing (v_spec_l1New x)).1.1)).1) 0) (v_spec_l1Once (((v_spec_l1New x).1, (v_spec_l4Draw (((v_spec_l1New x).1, (v_spec_l10Timing (v_spec_l1New x)).2), 3, 5, (v_spec_l10Timing (v_spec_l1New x)).1.1)).2), 12)).1) = false → True))) ∧ ((ok_spec_l1Below (((v_spec_l1New x).1, (bSel (bAnd (iGt (lLen (v_spec_l4Draw (((v_spec_l1New x).1, (v_spec_l10Timing (v_spec_l1New x)).2), 3, 5, (v_spec_l10Timing (v_spec_l1New x)).1.1)).1) 0) (v_spec_l1Once (((v_spec_l1New x).1, (v_spec_l4Draw (((v_spec_l1New x).1, (v_spec_l10Timing (v_spec_l1New x)).2), 3, 5, (v_spec_l10Timing (v_spec_l1New x)).1.1)).2), 12)).1) (v_spec_l1PickInt (((v_spec_l1New x).1, (v_spec_l1Below (((v_spec_l1New x).1, (bSel (iGt (lLen (v_spec_l4Draw (((v_spec_l1New x).1, (v_spec_l10Timing (v_spec_l1New x)).2), 3, 5, (v_spec_l10Timing (v_spec_l1New x)).1.1)).1) 0) (v_spec_l1Once (((v_spec_l1New x).1, (v_spec_l4Draw (((v_spec_l1New x).1, (v_spec_l10Timing (v_spec_l1New x)).2), 3, 5, (v_spec_l10Timing (v_spec_l1New x)).1.1)).2), 12)).2.1 (v_spec_l4Draw (((v_spec_l1New x).1, (v_spec_l10Timing (v_spec_l1New x)).2), 3, 5, (v_spec_l10Timing (v_spec_l1New x)).1.1)).2.1), (bSel (iGt (lLen (v_spec_l4Draw (((v_spec_l1New x).1, (v_spec_l10Timing (v_spec_l1New x)).2), 3, 5, (v_spec_l10Timing (v_spec_l1New x)).1.1)).1) 0) (v_spec_l1Once (((v_spec_l1New x).1, (v_spec_l4Draw (((v_spec_l1New x).1, (v_spec_l10Timing (v_spec_l1New x)).2), 3, 5, (v_spec_l10Timing (v_spec_l1New x)).1.1)).2), 12)).2.2 (v_spec_l4Draw (((v_spec_l1New x).1, (v_spec_l10Timing (v_spec_l1New x)).2), 3, 5, (v_spec_l10Timing (v_spec_l1New x)).1.1)).2.2)), (lLen (v_spec_l4Draw (((v_spec_l1New x).1, (v_spec_l10Timing (v_spec_l1New x)).2), 3, 5, (v_spec_l10Timing (v_spec_l1New x)).1.1)).1))).2), [(-1), 1000001])).2.1 (bSel (iGt (lLen (v_spec_l4Draw (((v_spec_l1New x).1, (v_spec_l10Timing (v_spec_l1New x)).2), 3, 5, (v_spec_l10Timing (v_spec_l1New x)).1.1)).1) 0) (v_spec_l1Once (((v_spec_l1New x).1, (v_spec_l4Draw (((v_spec_l1New x).1, (v_spec_l10Timing (v_spec_l1New x)).2), 3, 5, (v_spec_l10Timing (v_spec_l1New x)).1.1)).2), 12)).2.1 (v_spec_l4Draw (((v_spec_l1New x).1, (v_spec_l10Timing (v_spec_l1New x)).2), 3, 5, (v_spec_l10Timing (v_spec_l1New x)).1.1)).2.1)), (bSel (bAnd (iGt (lLen (v_spec_l4Draw (((v_spec_l1New x).1, (v_spec_l10Timing (v_spec_l1New x)).2), 3, 5, (v_spec_l10Timing (v_spec_l1New x)).1.1)).1) 0) (v_spec_l1Once (((v_spec_l1New x).1, (v_spec_l4Draw (((v_spec_l1New x).1, (v_spec_l10Timing (v_spec_l1New x)).2), 3, 5, (v_spec_l10Timing (v_spec_l1New x)).1.1)).2), 12)).1) (v_spec_l1PickInt (((v_spec_l1New x).1, (v_spec_l1Below (((v_spec_l1New x).1, (bSel (iGt (lLen (v_spec_l4Draw (((v_spec_l1New x).1, (v_spec_l10Timing (v_spec_l1New x)).2), 3, 5, (v_spec_l10Timing (v_spec_l1New x)).1.1)).1) 0) (v_spec_l1Once (((v_spec_l1New x).1, (v_spec_l4Draw (((v_spec_l1New x).1, (v_spec_l10Timing (v_spec_l1New x)).2), 3, 5, (v_spec_l10Timing (v_spec_l1New x)).1.1)).2), 12)).2.1 (v_spec_l4Draw (((v_spec_l1New x).1, (v_spec_l10Timing (v_spec_l1New x)).2), 3, 5, (v_spec_l10Timing (v_spec_l1New x)).1.1)).2.1), (bSel (iGt (lLen (v_spec_l4Draw (((v_spec_l1New x).1, (v_spec_l10Timing (v_spec_l1New x)).2), 3, 5, (v_spec_l10Timing (v_spec_l1New x)).1.1)).1) 0) (v_spec_l1Once (((v_spec_l1New x).1, (v_spec_l4Draw (((v_spec_l1New x).1, (v_spec_l10Timing (v_spec_l1New x)).2), 3, 5, (v_spec_l10Timing (v_spec_l1New x)).1.1)).2), 12)).2.2 (v_spec_l4Draw (((v_spec_l1New x).1, (v_spec_l10Timing (v_spec_l1New x)).2), 3, 5, (v_spec_l10Timing (v_spec_l1New x)).1.1)).2.2)), (lLen (v_spec_l4Draw (((v_spec_l1New x).1, (v_spec_l10Timing (v_spec_l1New x)).2), 3, 5, (v_spec_l10Timing (v_spec_l1New x)).1.1)).1))).2), [(-1), 1000001])).2.2 (bSel (iGt (lLen (v_spec_l4Draw (((v_spec_l1New x).1, (v_spec_l10Timing (v_spec_l1New x)).2), 3, 5, (v_spec_l10Timing (v_spec_l1New x)).1.1)).1) 0) (v_spec_l1Once (((v_spec_l1New x).1, (v_spec_l4Draw (((v_spec_l1New x).1, (v_spec_l10Timing (v_spec_l1New x)).2), 3, 5, (v_spec_l10Timing (v_spec_l1New x)).1.1)).2), 12)).2.2 (v_spec_l4Draw (((v_spec_l1New x).1, (v_spec_l10Timing (v_spec_l1New x)).2), 3, 5, (v_spec_l10Timing (v_spec_l1New x)).1.1)).2.2))), 4)) ∧ ((ok_spec_l1PickInt (((v_spec_l1New x).1, (v_spec_l1Below (((v_spec_l1New x).1, (bSel (bAnd (iGt (lLen (v_spec_l4Draw (((v_spec_l1New x).1, (v_spec_l10Timing (v_spec_l1New x)).2), 3, 5, (v_spec_l10Timing (v_spec_l1New x)).1.1)).1) 0) (v_spec_l1Once (((v_spec_l1New x).1, (v_spec_l4Draw (((v_spec_l1New x).1, (v_spec_l10Timing (v_spec_l1New x)).2), 3, 5, (v_spec_l10Timing (v_spec_l1New x)).1.1)).2), 12)).1) (v_spec_l1PickInt (((v_spec_l1New x).1, (v_spec_l1Below (((v_spec_l1New x).1, (bSel (iGt (lLen (v_spec_l4Draw (((v_spec_l1New x).1, (v_spec_l10Timing (v_spec_l1New x)).2), 3, 5, (v_spec_l10Timing (v_spec_l1New x)).1.1)).1) 0) (v_spec_l1Once (((v_spec_l1New x).1, (v_spec_l4Draw (((v_spec_l1New x).1, (v_spec_l10Timing (v_spec_l1New x)).2), 3, 5, (v_spec_l10Timing (v_spec_l1New x)).1.1)).2), 12)).2.1 (v_spec_l4Draw (((v_spec_l1New x).1, (v_spec_l10Timing (v_spec_l1New x)).2), 3, 5, (v_spec_l10Timing (v_spec_l1New x)).1.1)).2.1), (bSel (iGt (lLen (v_spec_l4Draw (((v_spec_l1New x).1, (v_spec_l10Timing (v_spec_l1New x)).2), 3, 5, (v_spec_l10Timing (v_spec_l1New x)).1.1)).1) 0) (v_spec_l1Once (((v_spec_l1New x).1, (v_spec_l4Draw (((v_spec_l1New x).1, (v_spec_l10Timing (v_spec_l1New x)).2), 3, 5, (v_spec_l10Timing (v_spec_l1New x)).1.1)).2), 12)).2.2 (v_spec_l4Draw (((v_spec_l1New x).1, (v_spec_l10Timing (v_spec_l1New x)).2), 3, 5, (v_spec_l10Timing (v_spec_l1New x)).1.1)).2.2)), (lLen (v_spec_l4Draw (((v_spec_l1New x).1, (v_spec_l10Timing (v_spec_l1New x)).2), 3, 5, (v_spec_l10Timing (v_spec_l1New x)).1.1)).1))).2), [(-1), 1000001])).2.1 (bSel (iGt (lLen (v_spec_l4Draw (((v_spec_l1New x).1, (v_spec_l10Timing (v_spec_l1New x)).2), 3, 5, (v_spec_l10Timing (v_spec_l1New x)).1.1)).1) 0) (v_spec_l1Once (((v_spec_l1New x).1, (v_spec_l4Draw (((v_spec_l1New x).1, (v_spec_l10Timing (v_spec_l1New x)).2), 3, 5, (v_spec_l10Timing (v_spec_l1New x)).1.1)).2), 12)).2.1 (v_spec_l4Draw (((v_spec_l1New x).1, (v_spec_l10Timing (v_spec_l1New x)).2), 3, 5, (v_spec_l10Timing (v_spec_l1New x)).1.1)).2.1)), (bSel (bAnd (iGt (lLen (v_spec_l4Draw (((v_spec_l1New x).1, (v_spec_l10Timing (v_spec_l1New x)).2), 3, 5, (v_spec_l10Timing (v_spec_l1New x)).1.1)).1) 0) (v_spec_l1Once (((v_spec_l1New x).1, (v_spec_l4Draw (((v_spec_l1New x).1, (v_spec_l10Timing (v_spec_l1New x)).2), 3, 5, (v_spec_l10Timing (v_spec_l1New x)).1.1)).2), 12)).1) (v_spec_l1PickInt (((v_spec_l1New x).1, (v_spec_l1Below (((v_spec_l1New x).1, (bSel (iGt (lLen (v_spec_l4Draw (((v_spec_l1New x).1, (v_spec_l10Timing (v_spec_l1New x)).2), 3, 5, (v_spec_l10Timing (v_spec_l1New x)).1.1)).1) 0) (v_spec_l1Once (((v_spec_l1New x).1, (v_spec_l4Draw (((v_spec_l1New x).1, (v_spec_l10Timing (v_spec_l1New x)).2), 3, 5, (v_spec_l10Timing (v_spec_l1New x)).1.1)).2), 12)).2.1 (v_spec_l4Draw (((v_spec_l1New x).1, (v_spec_l10Timing (v_spec_l1New x)).2), 3, 5, (v_spec_l10Timing (v_spec_l1New x)).1.1)).2.1), (bSel (iGt (lLen (v_spec_l4Draw (((v_spec_l1New x).1, (v_spec_l10Timing (v_spec_l1New x)).2), 3, 5, (v_spec_l10Timing (v_spec_l1New x)).1.1)).1) 0) (v_spec_l1Once (((v_spec_l1New x).1, (v_spec_l4Draw (((v_spec_l1New x).1, (v_spec_l10Timing (v_spec_l1New x)).2), 3, 5, (v_spec_l10Timing (v_spec_l1New x)).1.1)).2), 12)).2.2 (v_spec_l4Draw (((v_spec_l1New x).1, (v_spec_l10Timing (v_spec_l1New x)).2), 3, 5, (v_spec_l10Timing (v_spec_l1New x)).1.1)).2.2)), (lLen (v_spec_l4Draw (((v_spec_l1New x).1, (v_spec_l10Timing (v_spec_l1New x)).2), 3, 5, (v_spec_l10Timing (v_spec_l1New x)).1.1)).1))).2), [(-1), 1000001])).2.2 (bSel (iGt (lLen (v_spec_l4Draw (((v_spec_l1New x).1, (v_spec_l10Timing (v_spec_l1New x)).2), 3, 5, (v_spec_l10Timing (v_spec_l1New x)).1.1)).1) 0) (v_spec_l1Once (((v_spec_l1New x).1, (v_spec_l4Draw (((v_spec_l1New x).1, (v_spec_l10Timing (v_spec_l1New x)).2), 3, 5, (v_spec_l10Timing (v_spec_l1New x)).1.1)).2), 12)).2.2 (v_spec_l4Draw (((v_spec_l1New x).1, (v_spec_l10Timing (v_spec_l1New x)).2), 3, 5, (v_spec_l10Timing (v_spec_l1New x)).1.1)).2.2))), 4)).2), [0, 0, 1, (-1), 1000000, 1000001])) ∧ (ok_spec_l1PickInt (((v_spec_l1New x).1, (v_spec_l1PickInt (((v_spec_l1New x).1, (v_spec_l1Below (((v_spec_l1New x).1, (bSel (bAnd (iGt (lLen (v_spec_l4Draw (((v_spec_l1New x).1, (v_spec_l10Timing (v_spec_l1New x)).2), 3, 5, (v_spec_l10Timing (v_spec_l1New x)).1.1)).1) 0) (v_spec_l1Once (((v_spec_l1New x).1, (v_spec_l4Draw (((v_spec_l1New x).1, (v_spec_l10Timing (v_spec_l1New x)).2), 3, 5, (v_spec_l10Timing (v_spec_l1New x)).1.1)).2), 12)).1) (v_spec_l1PickInt (((v_spec_l1New x).1, (v_spec_l1Below (((v_spec_l1New x).1, (bSel (iGt (lLen (v_spec_l4Draw (((v_spec_l1New x).1, (v_spec_l10Timing (v_spec_l1New x)).2), 3, 5, (v_spec_l10Timing (v_spec_l1New x)).1.1)).1) 0) (v_spec_l1Once (((v_spec_l1New x).1, (v_spec_l4Draw (((v_spec_l1New x).1, (v_spec_l10Timing (v_spec_l1New x)).2), 3, 5, (v_spec_l10Timing (v_spec_l1New x)).1.1)).2), 12)).2.1 (v_spec_l4Draw (((v_spec_l1New x).1, (v_spec_l10Timing (v_spec_l1New x)).2), 3, 5, (v_spec_l10Timing (v_spec_l1New x)).1.1)).2.1), (bSel (iGt (lLen (v_spec_l4Draw (((v_spec_l1New x).1, (v_spec_l10Timing (v_spec_l1New x)).2), 3, 5, (v_spec_l10Timing (v_spec_l1New x)).1.1)).1) 0) (v_spec_l1Once (((v_spec_l1New x).1, (v_spec_l4Draw (((v_spec_l1New x).1, (v_spec_l10Timing (v_spec_l1New x)).2), 3, 5, (v_spec_l10Timing (v_spec_l1New x)).1.1)).2), 12)).2.2 (v_spec_l4Draw (((v_spec_l1New x).1, (v_spec_l10Timing (v_spec_l1New x)).2), 3, 5, (v_spec_l10Timing (v_spec_l1New x)).1.1)).2.2)), (lLen (v_spec_l4Draw (((v_spec_l1New x).1, (v_spec_l10Timing (v_spec_l1New x)).2), 3, 5, (v_spec_l10Timing (v_spec_l1New x)).1.1)).1))).2), [(-1), 1000001])).2.1 (bSel (iGt (lLen (v_spec_l4Draw (((v_spec_l1New x).1, (v_spec_l10Timing (v_spec_l1New x)).2), 3, 5, (v_spec_l10Timing (v_spec_l1New x)).1.1)).1) 0) (v_spec_l1Once (((v_spec_l1New x).1, (v_spec_l4Draw (((v_spec_l1New x).1, (v_spec_l10Timing (v_spec_l1New x)).2), 3, 5, (v_spec_l10Timing (v_spec_l1New x)).1.1)).2), 12)).2.1 (v_spec_l4Draw (((v_spec_l1New x).1, (v_spec_l10Timing (v_spec_l1New x)).2), 3, 5, (v_spec_l10Timing (v_spec_l1New x)).1.1)).2.1)), (bSel (bAnd (iGt (lLen (v_spec_l4Draw (((v_spec_l1New x).1, (v_spec_l10Timing (v_spec_l1New x)).2), 3, 5, (v_spec_l10Timing (v_spec_l1New x)).1.1)).1) 0) (v_spec_l1Once (((v_spec_l1New x).1, (v_spec_l4Draw (((v_spec_l1New x).1, (v_spec_l10Timing (v_spec_l1New x)).2), 3, 5, (v_spec_l10Timing (v_spec_l1New x)).1.1)).2), 12)).1) (v_spec_l1PickInt (((v_spec_l1New x).1, (v_spec_l1Below (((v_spec_l1New x).1, (bSel (iGt (lLen (v_spec_l4Draw (((v_spec_l1New x).1, (v_spec_l10Timing (v_spec_l1New x)).2), 3, 5, (v_spec_l10Timing (v_spec_l1New x)).1.1)).1) 0) (v_spec_l1Once (((v_spec_l1New x).1, (v_spec_l4Draw (((v_spec_l1New x).1, (v_spec_l10Timing (v_spec_l1New x)).2), 3, 5, (v_spec_l10Timing (v_spec_l1New x)).1.1)).2), 12)).2.1 (v_spec_l4Draw (((v_spec_l1New x).1, (v_spec_l10Timing (v_spec_l1New x)).2), 3, 5, (v_spec_l10Timing (v_spec_l1New x)).1.1)).2.1), (bSel (iGt (lLen (v_spec_l4Draw (((v_spec_l1New x).1, (v_spec_l10Timing (v_spec_l1New x)).2), 3, 5, (v_spec_l10Timing (v_spec_l1New x)).1.1)).1) 0) (v_spec_l1Once (((v_spec_l1New x).1, (v_spec_l4Draw (((v_spec_l1New x).1, (v_spec_l10Timing (v_spec_l1New x)).2), 3, 5, (v_spec_l10Timing (v_spec_l1New x)).1.1)).2), 12)).2.2 (v_spec_l4Draw (((v_spec_l1New x).1, (v_spec_l10Timing (v_spec_l1New x)).2), 3, 5, (v_spec_l10Timing (v_spec_l1New x)).1.1)).2.2)), (lLen (v_spec_l4Draw (((v_spec_l1New x).1, (v_spec_l10Timing (v_spec_l1New x)).2), 3, 5, (v_spec_l10Timing (v_spec_l1New x)).1.1)).1))).2), [(-1), 1000001])).2.2 (bSel (iGt (lLen (v_spec_l4Draw (((v_spec_l1New x).1, (v_spec_l10Timing (v_spec_l1New x)).2), 3, 5, (v_spec_l10Timing (v_spec_l1New x)).1.1)).1) 0) (v_spec_l1Once (((v_spec_l1New x).1, (v_spec_l4Draw (((v_spec_l1New x).1, (v_spec_l10Timing (v_spec_l1New x)).2), 3, 5, (v_spec_l10Timing (v_spec_l1New x)).1.1)).2), 12)).2.2 (v_spec_l4Draw (((v_spec_l1New x).1, (v_spec_l10Timing (v_spec_l1New x)).2), 3, 5, (v_spec_l10Timing (v_spec_l1New x)).1.1)).2.2))), 4)).2), [0, 0, 1, (-1), 1000000, 1000001])).2), [0, 3, 9, 20, 60, (-1)])))))))) := (ou_spec_DrawChoiceOf x).trans (by kernel_rfl)
noncomputable def lc_spec_IsEvents_1 (x : List (Int × Int × Bool)) (x0 : (Int × Int)) : Bool := (bAnd (iLt x0.2 (lLen x)) (bNot (bOr (bNot (v_spec_IsEvent (lGet x (iNat x0.2) (0, 0, false)))) (bSel (iGt x0.2 0) (bOr (iLt (lGet x (iNat x0.2) (0, 0, false)).1 (lGet x (iNat (iSub Go.IntKind.i64 x0.2 1)) (0, 0, false)).1) (bIff (lGet x (iNat x0.2) (0, 0, false)).2.2 (iEq (iAnd Go.IntKind.i64 (iShr Go.IntKind.i64 x0.1 (lGet x (iNat x0.2) (0, 0, false)).2.1) 1) 1))) (bIff (lGet x (iNat x0.2) (0, 0, false)).2.2 (iEq (iAnd Go.IntKind.i64 (iShr Go.IntKind.i64 x0.1 (lGet x (iNat x0.2) (0, 0, false)).2.1) 1) 1))))))
noncomputable def lf_spec_IsEvents_1 (x : List (Int × Int × Bool)) (x0 : (Int × Int)) : (Int × Int) := ((iXor Go.IntKind.i64 x0.1 (iShl Go.IntKind.i64 1 (lGet x (iNat x0.2) (0, 0, false)).2.1)), (iAdd Go.IntKind.i64 x0.2 1))
noncomputable def lp_spec_IsEvents_1 (x : List (Int × Int × Bool)) (x0 : (Int × Int)) : Prop := (((iLt x0.2 (lLen x)) = true → (((((0 : Int) ≤ x0.2) ∧ (x0.2 < (((List.length x) : Int)))) ∧ (((iNat x0.2) < (List.length x)) ∧ ((ok_spec_IsEvent (lGet x (iNat x0.2) (0, 0, false))) ∧ (((bNot (v_spec_IsEvent (lGet x (iNat x0.2) (0, 0, false)))) = true → True) ∧ ((bNot (v_spec_IsEvent (lGet x (iNat x0.2) (0, 0, false)))) = false → (((iGt x0.2 0) = true → ((((0 : Int) ≤ x0.2) ∧ (x0.2 < (((List.length x) : Int)))) ∧ (((iNat x0.2) < (List.length x)) ∧ ((((0 : Int) ≤ (iSub Go.IntKind.i64 x0.2 1)) ∧ ((iSub Go.IntKind.i64 x0.2 1) < (((List.length x) : Int)))) ∧ (((iNat (iSub Go.IntKind.i64 x0.2 1)) < (List.length x)) ∧ (((iLt (lGet x (iNat x0.2) (0, 0, false)).1 (lGet x (iNat (iSub Go.IntKind.i64 x0.2 1)) (0, 0, false)).1) = true → True) ∧ ((iLt (lGet x (iNat x0.2) (0, 0, false)).1 (lGet x (iNat (iSub Go.IntKind.i64 x0.2 1)) (0, 0, false)).1) = false → ((((0 : Int) ≤ x0.2) ∧ (x0.2 < (((List.length x) : Int)))) ∧ (((iNat x0.2) < (List.length x)) ∧ ((((0 : Int) ≤ x0.2) ∧ (x0.2 < (((List.length x) : Int)))) ∧ (((iNat x0.2) < (List.length x)) ∧ ((0 : Int) ≤ (lGet x (iNat x0.2) (0, 0, false)).2.1)))))))))))) ∧ ((iGt x0.2 0) = false → ((((0 : Int) ≤ x0.2) ∧ (x0.2 < (((List.length x) : Int)))) ∧ (((iNat x0.2) < (List.length x)) ∧ ((((0 : Int) ≤ x0.2) ∧ (x0.2 < (((List.length x) : Int)))) ∧ (((iNat x0.2) < (List.length x)) ∧ ((0 : Int) ≤ (lGet x (iNat x0.2) (0, 0, false)).2.1)))))))))))) ∧ (((bOr (bNot (v_spec_IsEvent (lGet x (iNat x0.2) (0, 0, false)))) (bSel (iGt x0.2 0) (bOr (iLt (lGet x (iNat x0.2) (0, 0, false)).1 (lGet x (iNat (iSub Go.IntKind.i64 x0.2 1)) (0, 0, false)).1) (bIff (lGet x (iNat x0.2) (0, 0, false)).2.2 (iEq (iAnd Go.IntKind.i64 (iShr Go.IntKind.i64 x0.1 (lGet x (iNat x0.2) (0, 0, false)).2.1) 1) 1))) (bIff (lGet x (iNat x0.2) (0, 0, false)).2.2 (iEq (iAnd Go.IntKind.i64 (iShr Go.IntKind.i64 x0.1 (lGet x (iNat x0.2) (0, 0, false)).2.1) 1) 1)))) = true → True) ∧ ((bOr (bNot (v_spec_IsEvent (lGet x (iNat x0.2) (0, 0, false)))) (bSel (iGt x0.2 0) (bOr (iLt (lGet x (iNat x0.2) (0, 0, false)).1 (lGet x (iNat (iSub Go.IntKind.i64 x0.2 1)) (0, 0, false)).1) (bIff (lGet x (iNat x0.2) (0, 0, false)).2.2 (iEq (iAnd Go.IntKind.i64 (iShr Go.IntKind.i64 x0.1 (lGet x (iNat x0.2) (0, 0, false)).2.1) 1) 1))) (bIff (lGet x (iNat x0.2) (0, 0, false)).2.2 (iEq (iAnd Go.IntKind.i64 (iShr Go.IntKind.i64 x0.1 (lGet x (iNat x0.2) (0, 0, false)).2.1) 1) 1)))) = false → ((((0 : Int) ≤ x0.2) ∧ (x0.2 < (((List.length x) : Int)))) ∧ (((iNat x0.2) < (List.length x)) ∧ ((0 : Int) ≤ (lGet x (iNat x0.2) (0, 0, false)).2.1))))))) ∧ ((iLt x0.2 (lLen x)) = false → True))
theorem ve_spec_IsEvents (x : List (Int × Int × Bool)) : v_spec_IsEvents x = (bAnd (bNot (iLt (loopV (lc_spec_IsEvents_1 x) (lf_spec_IsEvents_1 x) (0, 0)).2 (lLen x))) (iLe (lLen x) 64)) := (vu_spec_IsEvents x).trans (by kernel_rfl)
theorem oe_spec_IsEvents (x : List (Int × Int × Bool)) : ok_spec_IsEvents x = (LoopOk (lc_spec_IsEvents_1 x) (lf_spec_IsEvents_1 x) (lp_spec_IsEvents_1 x) (0, 0)) := (ou_spec_IsEvents x).trans (by kernel_rfl)
theorem ve_laws_FnFlavors (x : List (Int)) : v_laws_FnFlavors x = (bOr (v_laws_big x) (bOr (bOr (bNot (v_spec_IsEvents (v_spec_DrawChoiceOf x).2.2.2.1)) (bNot (v_spec_IsTiming (v_spec_DrawChoiceOf x).1))) (bAnd (bNot (iNe (v_impl_ChoiceOf (((v_spec_DrawChoiceOf x).1.1, (v_spec_DrawChoiceOf x).1.2.1, 0), (v_spec_DrawChoiceOf x).2.1, (v_spec_DrawChoiceOf x).2.2.1, (v_spec_DrawChoiceOf x).2.2.2.1, 1000000)).2 (v_spec_ChoiceOf (((v_spec_DrawChoiceOf x).1.1, (v_spec_DrawChoiceOf x).1.2.1, 0), (v_spec_DrawChoiceOf x).2.1, (v_spec_DrawChoiceOf x).2.2.1, (v_spec_DrawChoiceOf x).2.2.2.1, 1000000)).2)) (bAnd (bNot (bSel (iEq (v_impl_ChoiceOf (((v_spec_DrawChoiceOf x).1.1, (v_spec_DrawChoiceOf x).1.2.1, 0), (v_spec_DrawChoiceOf x).2.1, (v_spec_DrawChoiceOf x).2.2.1, (v_spec_DrawChoiceOf x).2.2.2.1, 1000000)).1 2) (bOr (iNe (v_impl_ChoiceOf (((v_spec_DrawChoiceOf x).1.1, (v_spec_DrawChoiceOf x).1.2.1, 2), (v_spec_DrawChoiceOf x).2.1, (v_spec_DrawChoiceOf x).2.2.1, (v_spec_DrawChoiceOf x).2.2.2.1, 1000000)).1 2) (bOr (iGt (v_impl_ChoiceOf (((v_spec_DrawChoiceOf x).1.1, (v_spec_DrawChoiceOf x).1.2.1, 2), (v_spec_DrawChoiceOf x).2.1, (v_spec_DrawChoiceOf x).2.2.1, (v_spec_DrawChoiceOf x).2.2.2.1, 1000000)).2 (v_impl_ChoiceOf (((v_spec_DrawChoiceOf x).1.1, (v_spec_DrawChoiceOf x).1.2.1, 0), (v_spec_DrawChoiceOf x).2.1, (v_spec_DrawChoiceOf x).2.2.1, (v_spec_DrawChoiceOf x).2.2.2.1, 1000000)).2) (bAnd (iEq (v_impl_ChoiceOf (((v_spec_DrawChoiceOf x).1.1, (v_spec_DrawChoiceOf x).1.2.1, 2), (v_spec_DrawChoiceOf x).2.1, (v_spec_DrawChoiceOf x).2.2.1, (v_spec_DrawChoiceOf x).2.2.2.1, 1000000)).1 2) (bOr (iNe (v_impl_ChoiceOf (((v_spec_DrawChoiceOf x).1.1, (v_spec_DrawChoiceOf x).1.2.1, 1), (v_spec_DrawChoiceOf x).2.1, (v_spec_DrawChoiceOf x).2.2.1, (v_spec_DrawChoiceOf x).2.2.2.1, 1000000)).1 2) (iGt (v_impl_ChoiceOf (((v_spec_DrawChoiceOf x).1.1, (v_spec_DrawChoiceOf x).1.2.1, 1), (v_spec_DrawChoiceOf x).2.1, (v_spec_DrawChoiceOf x).2.2.1, (v_spec_DrawChoiceOf x).2.2.2.1, 1000000)).2 (v_impl_ChoiceOf (((v_spec_DrawChoiceOf x).1.1, (v_spec_DrawChoiceOf x).1.2.1, 2), (v_spec_DrawChoiceOf x).2.1, (v_spec_DrawChoiceOf x).2.2.1, (v_spec_DrawChoiceOf x).2.2.2.1, 1000000)).2))))) (bAnd (iEq (v_impl_ChoiceOf (((v_spec_DrawChoiceOf x).1.1, (v_spec_DrawChoiceOf x).1.2.1, 2), (v_spec_DrawChoiceOf x).2.1, (v_spec_DrawChoiceOf x).2.2.1, (v_spec_DrawChoiceOf x).2.2.2.1, 1000000)).1 2) (bOr (iNe (v_impl_ChoiceOf (((v_spec_DrawChoiceOf x).1.1, (v_spec_DrawChoiceOf x).1.2.1, 1), (v_spec_DrawChoiceOf x).2.1, (v_spec_DrawChoiceOf x).2.2.1, (v_spec_DrawChoiceOf x).2.2.2.1, 1000000)).1 2) (iGt (v_impl_ChoiceOf (((v_spec_DrawChoiceOf x).1.1, (v_spec_DrawChoiceOf x).1.2.1, 1), (v_spec_DrawChoiceOf x).2.1, (v_spec_DrawChoiceOf x).2.2.1, (v_spec_DrawChoiceOf x).2.2.2.1, 1000000)).2 (v_impl_ChoiceOf (((v_spec_DrawChoiceOf x).1.1, (v_spec_DrawChoiceOf x).1.2.1, 2), (v_spec_DrawChoiceOf x).2.1, (v_spec_DrawChoiceOf x).2.2.1, (v_spec_DrawChoiceOf x).2.2.2.1, 1000000)).2))))) (bOr (iNe (v_impl_ChoiceOf (((v_spec_DrawChoiceOf x).1.1, (v_spec_DrawChoiceOf x).1.2.1, 1), (v_spec_DrawChoiceOf x).2.1, (v_spec_DrawChoiceOf x).2.2.1, (v_spec_DrawChoiceOf x).2.2.2.1, 1000000)).1 1) (bAnd (iEq (v_impl_ChoiceOf (((v_spec_DrawChoiceOf x).1.1, (v_spec_DrawChoiceOf x).1.2.1, 2), (v_spec_DrawChoiceOf x).2.1, (v_spec_DrawChoiceOf x).2.2.1, (v_spec_DrawChoiceOf x).2.2.2.1, 1000000)).1 1) (bAnd (iEq (v_impl_ChoiceOf (((v_spec_DrawChoiceOf x).1.1, (v_spec_DrawChoiceOf x).1.2.1, 0), (v_spec_DrawChoiceOf x).2.1, (v_spec_DrawChoiceOf x).2.2.1, (v_spec_DrawChoiceOf x).2.2.2.1, 1000000)).1 1) (bAnd (iEq (v_impl_ChoiceOf (((v_spec_DrawChoiceOf x).1.1, (v_spec_DrawChoiceOf x).1.2.1, 0), (v_spec_DrawChoiceOf x).2.1, (v_spec_DrawChoiceOf x).2.2.1, (v_spec_DrawChoiceOf x).2.2.2.1, 1000000)).2 (v_impl_ChoiceOf (((v_spec_DrawChoiceOf x).1.1, (v_spec_DrawChoiceOf x).1.2.1, 1), (v_spec_DrawChoiceOf x).2.1, (v_spec_DrawChoiceOf x).2.2.1, (v_spec_DrawChoiceOf x).2.2.2.1, 1000000)).2) (iEq (v_impl_ChoiceOf (((v_spec_DrawChoiceOf x).1.1, (v_spec_DrawChoiceOf x).1.2.1, 2), (v_spec_DrawChoiceOf x).2.1, (v_spec_DrawChoiceOf x).2.2.1, (v_spec_DrawChoiceOf x).2.2.2.1, 1000000)).2 (v_impl_ChoiceOf (((v_spec_DrawChoiceOf x).1.1, (v_spec_DrawChoiceOf x).1.2.1, 1), (v_spec_DrawChoiceOf x).2.1, (v_spec_DrawChoiceOf x).2.2.1, (v_spec_DrawChoiceOf x).2.2.2.1, 1000000)).2))))))))) := (vu_laws_FnFlavors x).trans (by kernel_rfl)
theorem oe_laws_FnFlavors (x : List (Int)) : ok_laws_FnFlavors x = ((ok_laws_big x) ∧ (((v_laws_big x) = true → True) ∧ ((v_laws_big x) = false → ((ok_spec_DrawChoiceOf x) ∧ (((ok_spec_IsEvents (v_spec_DrawChoiceOf x).2.2.2.1) ∧ (((bNot (v_spec_IsEvents (v_spec_DrawChoiceOf x).2.2.2.1)) = true → True) ∧ ((bNot (v_spec_IsEvents (v_spec_DrawChoiceOf x).2.2.2.1)) = false → (ok_spec_IsTiming (v_spec_DrawChoiceOf x).1)))) ∧ (((bOr (bNot (v_spec_IsEvents (v_spec_DrawChoiceOf x).2.2.2.1)) (bNot (v_spec_IsTiming (v_spec_DrawChoiceOf x).1))) = true → True) ∧ ((bOr (bNot (v_spec_IsEvents (v_spec_DrawChoiceOf x).2.2.2.1)) (bNot (v_spec_IsTiming (v_spec_DrawChoiceOf x).1))) = false → ((ok_impl_ChoiceOf (((v_spec_DrawChoiceOf x).1.1, (v_spec_DrawChoiceOf x).1.2.1, 0), (v_spec_DrawChoiceOf x).2.1, (v_spec_DrawChoiceOf x).2.2.1, (v_spec_DrawChoiceOf x).2.2.2.1, 1000000)) ∧ ((ok_spec_ChoiceOf (((v_spec_DrawChoiceOf x).1.1, (v_spec_DrawChoiceOf x).1.2.1, 0), (v_spec_DrawChoiceOf x).2.1, (v_spec_DrawChoiceOf x).2.2.1, (v_spec_DrawChoiceOf x).2.2.2.1, 1000000)) ∧ (((iNe (v_impl_ChoiceOf (((v_spec_DrawChoiceOf x).1.1, (v_spec_DrawChoiceOf x).1.2.1, 0), (v_spec_DrawChoiceOf x).2.1, (v_spec_DrawChoiceOf x).2.2.1, (v_spec_DrawChoiceOf x).2.2.2.1, 1000000)).2 (v_spec_ChoiceOf (((v_spec_DrawChoiceOf x).1.1, (v_spec_DrawChoiceOf x).1.2.1, 0), (v_spec_DrawChoiceOf x).2.1, (v_spec_DrawChoiceOf x).2.2.1, (v_spec_DrawChoiceOf x).2.2.2.1, 1000000)).2) = true → True) ∧ ((iNe (v_impl_ChoiceOf (((v_spec_DrawChoiceOf x).1.1, (v_spec_DrawChoiceOf x).1.2.1, 0), (v_spec_DrawChoiceOf x).2.1, (v_spec_DrawChoiceOf x).2.2.1, (v_spec_DrawChoiceOf x).2.2.2.1, 1000000)).2 (v_spec_ChoiceOf (((v_spec_DrawChoiceOf x).1.1, (v_spec_DrawChoiceOf x).1.2.1, 0), (v_spec_DrawChoiceOf x).2.1, (v_spec_DrawChoiceOf x).2.2.1, (v_spec_DrawChoiceOf x).2.2.2.1, 1000000)).2) = false → ((ok_impl_ChoiceOf (((v_spec_DrawChoiceOf x).1.1, (v_spec_DrawChoiceOf x).1.2.1, 2), (v_spec_DrawChoiceOf x).2.1, (v_spec_DrawChoiceOf x).2.2.1, (v_spec_DrawChoiceOf x).2.2.2.1, 1000000)) ∧ (ok_impl_ChoiceOf (((v_spec_DrawChoiceOf x).1.1, (v_spec_DrawChoiceOf x).1.2.1, 1), (v_spec_DrawChoiceOf x).2.1, (v_spec_DrawChoiceOf x).2.2.1, (v_spec_DrawChoiceOf x).2.2.2.1, 1000000)))))))))))))) := (ou_laws_FnFlavors x).trans (by kernel_rfl)
end
abbrev Ev := Int × Int × Bool
noncomputable def chs (fl key en : Int) : List Ev → Int → Option (Int × Int)
  | [], _ => none
  | e :: r, d =>
    if v_impl_IsEvent e = true then
      if en ≤ e.1 then some (2, en)
      else if e.2.1 = key then (if e.2.2 = true then chs fl key en r d else some (1, e.1))
      else if e.2.2 = true then (if fl = 1 then some (2, e.1) else chs fl key en r (iOr .i64 d (iShl .i64 1 e.2.1)))
      else if fl = 2 ∧ v_impl_bit (d, e.2.1) = 1 then some (2, e.1) else chs fl key en r d
    else some (0, 0)
noncomputable def chF (en now : Int) : Option (Int × Int) → Int × Int
  | some r => r
  | none => if en ≤ now then (2, en) else (0, 0)
theorem drop_cons {α : Type} (l : List α) (i : Nat) (d : α) (h : i < l.length) : l.drop i = l.getD i d :: l.drop (i + 1) := by
  rw [List.getD_eq_getElem?_getD, List.getElem?_eq_getElem h]
  exact List.drop_eq_getElem_cons h
theorem cho_eq (t : Int × Int × Int) (key time : Int) (rest : List Ev) (now : Int) (hl : rest.length ≤ 1048576) (ht : v_impl_IsTiming t = true) (h0 : 0 ≤ time) (h1 : time ≤ 1000000) :
    v_impl_ChoiceOf (t, key, time, rest, now) = chF (time + t.1) now (chs t.2.2 key (time + t.1) rest 0) := by
  rw [vl_impl_ChoiceOf]
  have hend : iAdd .i64 time t.1 = time + t.1 := by
    rw [ve_impl_IsTiming] at ht
    simp only [bAnd_eq, iGe_eq, iLe_eq, Bool.and_eq_true, decide_eq_true_eq] at ht
    exact iAdd_i64 (by unfold In64; omega)
  have e1 : bOr (bNot (v_impl_IsTiming t)) (bOr (iLt time 0) (iGt time 1000000)) = false := by
    rw [bOr_eq, bOr_eq, bNot_eq, ht, iLt_eq, iGt_eq]; simp; omega
  simp only [e1, bSel_f, hend]
  have key1 := loop_inv_v (c := lc_impl_ChoiceOf_1 (t, key, time, rest, now)) (f := lf_impl_ChoiceOf_1 (t, key, time, rest, now)) (fun st => 0 ≤ st.2 ∧ st.2 ≤ rest.length ∧ chs t.2.2 key (time + t.1) (rest.drop st.2.toNat) st.1 = chs t.2.2 key (time + t.1) rest 0) (fun st => (rest.length - st.2).toNat) (fun st ⟨i0, i1, i2⟩ hc => by
    obtain ⟨d, i⟩ := st
    unfold lc_impl_ChoiceOf_1 at hc
    simp only [bAnd_eq, bOr_eq, bNot_eq, bSel_eq, iLt_eq, iGe_eq, iEq_eq, lLen_eq, lGet_eq, iNat_eq, hend, Bool.and_eq_true, Bool.or_eq_true, decide_eq_true_eq, Bool.not_eq_true', Bool.not_eq_false', Bool.not_eq_true, decide_eq_false_iff_not] at hc i0 i1 i2
    obtain ⟨c1, c2, c3, c4, c5⟩ := hc
    have hlt : i.toNat < rest.length := by omega
    have hn : (iAdd .i64 i 1).toNat = i.toNat + 1 := by rw [iAdd_i64 (by unfold In64; omega)]; omega
    have hi : iAdd .i64 i 1 = i + 1 := iAdd_i64 (by unfold In64; omega)
    rw [drop_cons rest i.toNat (0, 0, false) hlt] at i2
    unfold lf_impl_ChoiceOf_1
    simp only [bSel_eq, iEq_eq, lGet_eq, iNat_eq, decide_eq_true_eq]
    refine ⟨⟨by rw [hi]; omega, by rw [hi]; omega, ?_⟩, by rw [hi]; omega⟩
    rw [hn, ← i2]
    generalize List.getD rest i.toNat (0, 0, false) = e at c2 c3 c4 c5 ⊢
    generalize rest.drop (i.toNat + 1) = r
    conv => rhs; unfold chs
    rw [if_pos c2, if_neg c3]
    by_cases hk : e.2.1 = key
    · rw [if_pos hk, if_pos hk]
      cases hd : e.2.2 with
      | true => rfl
      | false => rw [hk, hd] at c4; simp at c4
    · rw [if_neg hk, if_neg hk]
      have c5 := c5.resolve_left hk
      cases hd : e.2.2 with
      | true =>
        rw [hd] at c5
        simp only [if_true, decide_eq_false_iff_not, Bool.not_eq_true', Bool.not_eq_eq_eq_not, Bool.not_true] at c5 ⊢
        rw [if_neg c5]
      | false =>
        rw [hd] at c5
        simp only [Bool.false_eq_true, if_false] at c5 ⊢
        rw [if_neg (by rintro ⟨a, b⟩; simp [a, b] at c5)]) (x0 := (0, 0)) ⟨by simp, by simp, by simp⟩
  generalize loopV (lc_impl_ChoiceOf_1 (t, key, time, rest, now)) (lf_impl_ChoiceOf_1 (t, key, time, rest, now)) (0, 0) = y at key1 ⊢
  obtain ⟨⟨i0, i1, i2⟩, hc⟩ := key1
  obtain ⟨d, i⟩ := y
  simp only at i0 i1 i2 hc ⊢
  rw [← i2]
  by_cases hlt : i < rest.length
  · have hlt' : i.toNat < rest.length := by omega
    rw [drop_cons rest i.toNat (0, 0, false) hlt']
    unfold lc_impl_ChoiceOf_1 at hc
    simp only [bAnd_eq, bOr_eq, bNot_eq, bSel_eq, iLt_eq, iGe_eq, iEq_eq, lLen_eq, lGet_eq, iNat_eq, hend, decide_eq_true_eq, if_pos hlt, decide_eq_true hlt, Bool.true_and, Bool.and_eq_true, Bool.not_eq_true', Bool.not_eq_true] at hc ⊢
    generalize List.getD rest i.toNat (0, 0, false) = e at hc ⊢
    generalize rest.drop (i.toNat + 1) = r
    unfold chs
    by_cases c2 : v_impl_IsEvent e = true
    · by_cases c3 : time + t.1 ≤ e.1
      · simp [c2, c3, chF]
      · by_cases hk : e.2.1 = key
        · cases hd : e.2.2 with
          | true => simp [c2, c3, hk, hd] at hc
          | false => simp [c2, c3, hk, chF]
        · cases hd : e.2.2 with
          | true =>
            simp [c2, c3, hk, hd] at hc
            simp [c2, c3, hk, hc, chF]
          | false =>
            simp [c2, c3, hk, hd] at hc
            simp [c2, c3, hk, hc, chF]
    · simp [c2, chF]
  · have : rest.drop i.toNat = [] := List.drop_eq_nil_of_le (by omega)
    rw [this]
    simp only [iLt_eq, lLen_eq, decide_eq_false hlt, chs, chF, iGe_eq, bSel_eq, decide_eq_true_eq, Bool.false_eq_true, if_false]
theorem cho_bad (t : Int × Int × Int) (key time : Int) (rest : List Ev) (now : Int) (h : ¬ (v_impl_IsTiming t = true ∧ 0 ≤ time ∧ time ≤ 1000000)) : v_impl_ChoiceOf (t, key, time, rest, now) = (0, 0) := by
  rw [vl_impl_ChoiceOf]
  have e1 : bOr (bNot (v_impl_IsTiming t)) (bOr (iLt time 0) (iGt time 1000000)) = true := by
    rw [bOr_eq, bOr_eq, bNot_eq, iLt_eq, iGt_eq]
    cases ht : v_impl_IsTiming t with
    | false => rfl
    | true =>
      simp only [ht, true_and] at h
      simp; omega
  simp only [e1, bSel_t]
theorem chs_ok {fl key en : Int} : ∀ {l : List Ev} {d : Int} {r : Int × Int}, (∀ e ∈ l, v_impl_IsEvent e = true) → chs fl key en l d = some r → (r = (2, en) ∨ ((r.1 = 1 ∨ r.1 = 2) ∧ r.2 < en ∧ ∃ e ∈ l, r.2 = e.1)) ∧ (fl = 0 → r.1 = 2 → r.2 = en)
  | [], _, _, _, h => by cases h
  | e :: l, d, r, hl, h => by
    have ih : ∀ {d}, chs fl key en l d = some r → (r = (2, en) ∨ ((r.1 = 1 ∨ r.1 = 2) ∧ r.2 < en ∧ ∃ e' ∈ e :: l, r.2 = e'.1)) ∧ (fl = 0 → r.1 = 2 → r.2 = en) := fun h => by
      obtain ⟨h1, h2⟩ := chs_ok (fun x hx => hl x (List.mem_cons_of_mem _ hx)) h
      refine ⟨?_, h2⟩
      rcases h1 with h1 | ⟨h1, h3, x, hx, h4⟩
      · exact .inl h1
      · exact .inr ⟨h1, h3, x, List.mem_cons_of_mem _ hx, h4⟩
    unfold chs at h
    rw [if_pos (hl e (List.mem_cons_self ..))] at h
    split at h
    · cases h; exact ⟨.inl rfl, fun _ _ => rfl⟩
    · rename_i c3
      split at h
      · split at h
        · exact ih h
        · cases h; exact ⟨.inr ⟨.inl rfl, by simpa using c3, e, List.mem_cons_self .., rfl⟩, fun _ h => by cases h⟩
      · split at h
        · split at h
          · rename_i hf
            cases h; exact ⟨.inr ⟨.inr rfl, by simpa using c3, e, List.mem_cons_self .., rfl⟩, fun h0 => by omega⟩
          · exact ih h
        · split at h
          · rename_i hf
            cases h; exact ⟨.inr ⟨.inr rfl, by simpa using c3, e, List.mem_cons_self .., rfl⟩, fun h0 => by omega⟩
          · exact ih h
theorem chs_02 {key en : Int} : ∀ {l : List Ev} (d0 d : Int), (∀ e ∈ l, v_impl_IsEvent e = true) → chs 2 key en l d = chs 0 key en l d0 ∨ ∃ t, chs 2 key en l d = some (2, t) ∧ t < en
  | [], _, _, _ => .inl rfl
  | e :: l, d0, d, hl => by
    have ih : ∀ d0 d, chs 2 key en l d = chs 0 key en l d0 ∨ ∃ t, chs 2 key en l d = some (2, t) ∧ t < en := fun d0 d => chs_02 d0 d fun x hx => hl x (List.mem_cons_of_mem _ hx)
    unfold chs
    rw [if_pos (hl e (List.mem_cons_self ..)), if_pos (hl e (List.mem_cons_self ..))]
    by_cases c3 : en ≤ e.1
    · rw [if_pos c3, if_pos c3]; exact .inl rfl
    · rw [if_neg c3, if_neg c3]
      by_cases hk : e.2.1 = key
      · rw [if_pos hk, if_pos hk]
        cases e.2.2 with
        | true => exact ih _ _
        | false => exact .inl rfl
      · rw [if_neg hk, if_neg hk]
        cases e.2.2 with
        | true => simpa using ih _ _
        | false =>
          simp only [Bool.false_eq_true, if_false]
          rw [if_neg (by omega : ¬ ((0 : Int) = 2 ∧ v_impl_bit (d0, e.2.1) = 1))]
          by_cases hb : v_impl_bit (d, e.2.1) = 1
          · rw [if_pos ⟨trivial, hb⟩]; exact .inr ⟨e.1, rfl, by omega⟩
          · rw [if_neg (by simp [hb])]; exact ih _ _
theorem bit0 {k : Int} (h0 : 0 ≤ k) (h1 : k ≤ 31) : v_impl_bit (0, k) ≠ 1 := by
  rw [ve_impl_bit]
  obtain ⟨n, rfl⟩ : ∃ n : Nat, k = n := ⟨k.toNat, by omega⟩
  have := shr_i64 0 n (by omega)
  simp only [Int.natCast_zero, Nat.zero_div] at this
  have h2 := and_i64 (a := 0) (b := 1) (by decide) (by decide)
  simp only [Int.natCast_zero, Int.natCast_one, Nat.zero_and] at h2
  simp only [this, h2]
  decide
theorem chs_21 {key en : Int} : ∀ {l : List Ev} (d1 : Int), (∀ e ∈ l, v_impl_IsEvent e = true) → l.Pairwise (fun a b => a.1 ≤ b.1) → chs 1 key en l d1 = chs 2 key en l 0 ∨ ∃ t0, chs 1 key en l d1 = some (2, t0) ∧ t0 < en ∧ ∀ r, chs 2 key en l 0 = some r → t0 ≤ r.2
  | [], _, _, _ => .inl rfl
  | e :: l, d1, hl, hs => by
    have hl' : ∀ x ∈ l, v_impl_IsEvent x = true := fun x hx => hl x (List.mem_cons_of_mem _ hx)
    have hs1 : ∀ {x : Ev}, x ∈ l → e.1 ≤ x.1 := fun hx => List.rel_of_pairwise_cons hs hx
    have ih := fun d1 => chs_21 (key := key) (en := en) d1 hl' hs.of_cons
    have he := hl e (List.mem_cons_self ..)
    unfold chs
    rw [if_pos he, if_pos he]
    by_cases c3 : en ≤ e.1
    · rw [if_pos c3, if_pos c3]; exact .inl rfl
    · rw [if_neg c3, if_neg c3]
      by_cases hk : e.2.1 = key
      · rw [if_pos hk, if_pos hk]
        cases e.2.2 with
        | true => exact ih _
        | false => exact .inl rfl
      · rw [if_neg hk, if_neg hk]
        cases e.2.2 with
        | true =>
          simp only [if_true]
          refine .inr ⟨e.1, rfl, by omega, fun r hr => ?_⟩
          rw [if_neg (by decide)] at hr
          rcases (chs_ok hl' hr).1 with h | ⟨_, _, x, hx, h⟩
          · rw [h]; simp; omega
          · rw [h]; exact hs1 hx
        | false =>
          have hb : v_impl_bit (0, e.2.1) ≠ 1 := by
            rw [ve_impl_IsEvent] at he
            simp only [bAnd_eq, iGe_eq, iLe_eq, Bool.and_eq_true, decide_eq_true_eq] at he
            exact bit0 he.2.2.1 he.2.2.2
          simp only [Bool.false_eq_true, if_false]
          rw [if_neg (by omega : ¬ ((1 : Int) = 2 ∧ v_impl_bit (d1, e.2.1) = 1)), if_neg (by simp [hb])]
          exact ih _
theorem isEvents_s {l : List Ev} (hl : l.length ≤ 1048576) (h : v_spec_IsEvents l = true) : (∀ e ∈ l, v_impl_IsEvent e = true) ∧ l.Pairwise (fun a b => a.1 ≤ b.1) := by
  rw [ve_spec_IsEvents] at h
  simp only [bAnd_eq, bNot_eq, iLt_eq, iLe_eq, lLen_eq, Bool.and_eq_true, Bool.not_eq_true', decide_eq_false_iff_not, decide_eq_true_eq] at h
  have key := loop_inv_v (c := lc_spec_IsEvents_1 l) (f := lf_spec_IsEvents_1 l) (fun st => 0 ≤ st.2 ∧ st.2 ≤ l.length ∧ ∀ j : Nat, (j : Int) < st.2 → v_impl_IsEvent (l.getD j (0, 0, false)) = true ∧ ∀ i : Nat, i ≤ j → (l.getD i (0, 0, false)).1 ≤ (l.getD j (0, 0, false)).1) (fun st => (l.length - st.2).toNat) (fun st ⟨i0, i1, i2⟩ hc => by
    obtain ⟨d, i⟩ := st
    unfold lc_spec_IsEvents_1 at hc
    simp only [bAnd_eq, bOr_eq, bNot_eq, bSel_eq, iLt_eq, iGt_eq, lLen_eq, lGet_eq, iNat_eq, isEvent_eq, Bool.and_eq_true, decide_eq_true_eq, Bool.not_eq_true', Bool.or_eq_false_iff, Bool.not_eq_false'] at hc i0 i1 i2
    obtain ⟨c1, c2, c3⟩ := hc
    have hi : iAdd .i64 i 1 = i + 1 := iAdd_i64 (by unfold In64; omega)
    unfold lf_spec_IsEvents_1
    simp only [hi]
    refine ⟨⟨by omega, by omega, fun j hj => ?_⟩, by omega⟩
    by_cases hji : (j : Int) < i
    · exact i2 j hji
    · have hje : j = i.toNat := by omega
      subst hje
      refine ⟨c2, fun k hk => ?_⟩
      by_cases hki : k = i.toNat
      · rw [hki]; exact Int.le_refl _
      · have hpos : 0 < i := by omega
        rw [if_pos hpos] at c3
        simp only [Bool.or_eq_false_iff, decide_eq_false_iff_not] at c3
        have hs : iSub .i64 i 1 = i - 1 := iSub_i64 (by unfold In64; omega)
        rw [hs] at c3
        have := (i2 (i - 1).toNat (by omega)).2 k (by omega)
        have c3 := c3.1
        omega) (x0 := (0, 0)) ⟨by simp, by simp, fun j hj => by simp only at hj; omega⟩
  obtain ⟨⟨i0, i1, i2⟩, _⟩ := key
  have hn : (loopV (lc_spec_IsEvents_1 l) (lf_spec_IsEvents_1 l) (0, 0)).2 = l.length := by omega
  rw [hn] at i2
  refine ⟨fun e he => ?_, ?_⟩
  · obtain ⟨j, hj, rfl⟩ := List.getElem_of_mem he
    have := (i2 j (by omega)).1
    rwa [List.getD_eq_getElem?_getD, List.getElem?_eq_getElem hj] at this
  · rw [List.pairwise_iff_getElem]
    intro i j hi hj hij
    have := (i2 j (by omega)).2 i (by omega)
    rwa [List.getD_eq_getElem?_getD, List.getElem?_eq_getElem hi, List.getD_eq_getElem?_getD, List.getElem?_eq_getElem hj] at this
theorem isEvents_ok {l : List Ev} (hl : l.length ≤ 1048576) : ok_spec_IsEvents l := by
  rw [oe_spec_IsEvents]
  refine cnt_ok (fun st => st.2) l.length (by omega) (fun st _ _ hc => ?_) (fun _ => rfl) (fun st h0 h1 => ?_) (by simp) (by simp)
  · unfold lc_spec_IsEvents_1 at hc
    simp only [bAnd_eq, iLt_eq, lLen_eq, Bool.and_eq_true, decide_eq_true_eq] at hc
    exact hc.1
  · unfold lp_spec_IsEvents_1
    refine ⟨fun hc => ?_, fun _ => trivial⟩
    rw [iLt_eq, lLen_eq, decide_eq_true_eq] at hc
    have a1 : iNat st.2 < l.length := by rw [iNat_eq]; omega
    have ke : bNot (v_spec_IsEvent (lGet l (iNat st.2) (0, 0, false))) = false → 0 ≤ (lGet l (iNat st.2) (0, 0, false)).2.1 := fun he => by
      rw [bNot_eq, Bool.not_eq_false', isEvent_eq] at he
      exact isEvent_key he
    refine ⟨⟨⟨h0, hc⟩, a1, (ok_isEvent _).1, fun _ => trivial, fun he => ⟨fun hp => ?_, fun _ => ⟨⟨h0, hc⟩, a1, ⟨h0, hc⟩, a1, ke he⟩⟩⟩, fun _ => trivial, fun hb => ⟨⟨h0, hc⟩, a1, ke ?_⟩⟩
    · rw [iGt_eq, decide_eq_true_eq] at hp
      have hs : iSub .i64 st.2 1 = st.2 - 1 := iSub_i64 (by unfold In64; omega)
      rw [hs]
      exact ⟨⟨h0, hc⟩, a1, ⟨by omega, by omega⟩, by rw [iNat_eq]; omega, fun _ => trivial, fun _ => ⟨⟨h0, hc⟩, a1, ⟨h0, hc⟩, a1, ke he⟩⟩
    · rw [bOr_eq, Bool.or_eq_false_iff] at hb; exact hb.1
theorem timing_ok (c : List Int × Int × Int) (h : CurOk c) : ok_spec_l10Timing c ∧ CurOk (c.1, (v_spec_l10Timing c).2) := by
  rw [oe_spec_l10Timing, ve_spec_l10Timing]
  obtain ⟨a1, a2, _⟩ := below_ok c 9 h
  obtain ⟨b1, b2, _⟩ := pick_ok _ [0, 0, 3, 6] (by decide) a2
  obtain ⟨c1, c2, _⟩ := below_ok _ 3 b2
  exact ⟨⟨a1, b1, c1⟩, c2⟩
theorem draw4_ok (c : List Int × Int × Int) (keys most wide : Int) (h : CurOk c) (h0 : 0 ≤ most) (h1 : most ≤ 1000) : ok_spec_l4Draw (c, keys, most, wide) ∧ CurOk (c.1, (v_spec_l4Draw (c, keys, most, wide)).2) ∧ (v_spec_l4Draw (c, keys, most, wide)).1.length ≤ 1000 := by
  rw [oe_spec_l4Draw, ve_spec_l4Draw]
  have hm : iAdd .i64 most 1 = most + 1 := iAdd_i64 (by unfold In64; omega)
  simp only [hm]
  obtain ⟨a1, a2, _, a4⟩ := below_ok c (most + 1) h
  have a4 := a4 (by omega)
  have nn : ∀ (c : List Int × Int × Int) (n : Int), CurOk c → 0 ≤ (v_spec_l1Below (c, n)).1 := fun c n hc => by
    obtain ⟨_, _, b3, b4⟩ := below_ok c n hc
    rcases Int.lt_or_le 0 n with h | h
    · exact (b4 h).1
    · rw [b3 h]; exact Int.le_refl _
  have key := loop_inv (c := lc_spec_l4Draw_1) (f := lf_spec_l4Draw_1 (c, keys, most, wide)) (p := lp_spec_l4Draw_1 (c, keys, most, wide)) (fun st => CurOk (c.1, st.2.2.2.2) ∧ 0 ≤ st.2.2.2.1 ∧ (st.1.length : Int) + st.2.2.2.1 ≤ 1000) (fun st => st.2.2.2.1.toNat) (fun st ⟨i0, i1, i2⟩ => by
    obtain ⟨l, tm, hd, n, cu⟩ := st
    simp only at i0 i1 i2
    obtain ⟨b1, b2, _⟩ := pick_ok (c.1, cu) [0, 0, 1, (iQuo .i64 wide 3), (iSub .i64 wide 1), wide, (iAdd .i64 wide 1), (iQuo .i64 wide 2)] (by simp) i0
    obtain ⟨c1, c2, _⟩ := below_ok _ keys b2
    have c5 := nn _ keys b2
    refine ⟨?_, fun hc => ?_⟩
    · unfold lp_spec_l4Draw_1
      refine ⟨fun hc => ?_, fun _ => trivial⟩
      rw [iGt_eq, decide_eq_true_eq] at hc
      refine ⟨by omega, by omega, b1, c1, c5, c5, ?_⟩
      unfold roomy
      simp only [List.length_singleton]
      omega
    · unfold lc_spec_l4Draw_1 at hc
      simp only [iGt_eq, decide_eq_true_eq] at hc
      have hn : iSub .i64 n 1 = n - 1 := iSub_i64 (by unfold In64; omega)
      unfold lf_spec_l4Draw_1
      simp only [hn, lApp_eq, List.length_append, List.length_singleton]
      exact ⟨⟨c2, by omega, by omega⟩, by omega⟩) (x0 := ([], 0, 0, v_spec_l1Below (c, most + 1))) ⟨a2, a4.1, by simp only [List.length_nil]; omega⟩
  obtain ⟨k1, ⟨k2, k3, k4⟩, _⟩ := key
  exact ⟨⟨a1, k1⟩, k2, by omega⟩
theorem drawChoice_ok (x : List Int) (hx : x.length ≤ 1048576) : ok_spec_DrawChoiceOf x ∧ (v_spec_DrawChoiceOf x).2.2.2.1.length ≤ 1000 := by
  rw [oe_spec_DrawChoiceOf, ve_spec_DrawChoiceOf]
  obtain ⟨n1, n2, n3⟩ := new_ok x hx
  generalize v_spec_l1New x = c0 at n2 n3 ⊢
  obtain ⟨t1, t2⟩ := timing_ok c0 n2
  generalize v_spec_l10Timing c0 = T at t2 ⊢
  obtain ⟨d1, d2, d3⟩ := draw4_ok (c0.1, T.2) 3 5 T.1.1 t2 (by omega) (by omega)
  generalize v_spec_l4Draw ((c0.1, T.2), 3, 5, T.1.1) = L at d2 d3 ⊢
  simp only at d2
  obtain ⟨o1, o2⟩ := once_ok (c0.1, L.2) 12 d2
  generalize v_spec_l1Once ((c0.1, L.2), 12) = O at o2 ⊢
  simp only at o2
  generalize hp : iGt (lLen L.1) 0 = p
  have c5 : CurOk (c0.1, bSel p O.2.1 L.2.1, bSel p O.2.2 L.2.2) := by
    cases p
    · simp only [bSel_f]; exact d2
    · simp only [bSel_t]; exact o2
  generalize bSel p O.2.1 L.2.1 = e5 at c5 ⊢
  generalize bSel p O.2.2 L.2.2 = e6 at c5 ⊢
  obtain ⟨b1, b2, _, b4⟩ := below_ok (c0.1, e5, e6) (lLen L.1) c5
  generalize v_spec_l1Below ((c0.1, e5, e6), lLen L.1) = B at b2 b4 ⊢
  simp only at b2
  obtain ⟨p1, p2, _⟩ := pick_ok (c0.1, B.2) [-1, 1000001] (by decide) b2
  generalize v_spec_l1PickInt ((c0.1, B.2), [-1, 1000001]) = K at p2 ⊢
  simp only at p2
  generalize hq : bAnd p O.1 = q
  have c10 : CurOk (c0.1, bSel q K.2.1 e5, bSel q K.2.2 e6) := by
    cases q
    · simp only [bSel_f]; exact c5
    · simp only [bSel_t]; exact p2
  generalize bSel q K.2.1 e5 = e7 at c10 ⊢
  generalize bSel q K.2.2 e6 = e8 at c10 ⊢
  obtain ⟨f1, f2, _⟩ := below_ok (c0.1, e7, e8) 4 c10
  generalize v_spec_l1Below ((c0.1, e7, e8), 4) = F at f2 ⊢
  simp only at f2
  obtain ⟨g1, g2, _⟩ := pick_ok (c0.1, F.2) [0, 0, 1, -1, 1000000, 1000001] (by decide) f2
  generalize v_spec_l1PickInt ((c0.1, F.2), [0, 0, 1, -1, 1000000, 1000001]) = G at g2 ⊢
  obtain ⟨h1, _⟩ := pick_ok (c0.1, G.2) [0, 3, 9, 20, 60, -1] (by decide) g2
  refine ⟨⟨n1, t1, d1, ⟨⟨fun _ => o1, fun _ => trivial⟩, fun hqt => ?_, fun _ => trivial⟩, f1, g1, h1⟩, ?_⟩
  · rw [hqt] at hq
    rw [bAnd_eq, Bool.and_eq_true] at hq
    rw [hq.1, iGt_eq, decide_eq_true_eq] at hp
    have b4 := b4 hp
    rw [lLen_eq] at b4
    exact ⟨b1, p1, b4, by rw [iNat_eq]; omega⟩
  · simp only
    cases q
    · simp only [bSel_f]; exact d3
    · simp only [bSel_t, lSet_eq, List.length_set]; exact d3
theorem plain_FnFlavors (x : List Int) (_hw : TuX.wf h_laws_FnFlavors x) : ok_laws_FnFlavors x ∧ v_laws_FnFlavors x = true := by
  rw [oe_laws_FnFlavors, ve_laws_FnFlavors]
  obtain ⟨b1, b2⟩ := big_eq x
  by_cases hx : 1048576 < x.length
  · have e : v_laws_big x = true := by rw [b1]; simpa using hx
    simp [e, b2, bOr_eq]
  have e : v_laws_big x = false := by rw [b1]; simpa using hx
  obtain ⟨d1, d2⟩ := drawChoice_ok x (by omega)
  generalize v_spec_DrawChoiceOf x = D at d2 ⊢
  obtain ⟨t, key, time, rest, w⟩ := D
  simp only at d2 ⊢
  have ie := isEvents_ok (l := rest) (by omega)
  have okt : ok_spec_IsTiming t := (ok_isTiming t).1
  have okc : ∀ (f : Int), ok_spec_ChoiceOf ((t.1, t.2.1, f), key, time, rest, 1000000) ∧ ok_impl_ChoiceOf ((t.1, t.2.1, f), key, time, rest, 1000000) := fun f => ok_choiceOf ((t.1, t.2.1, f), key, time, rest, 1000000) (by simp only; omega)
  refine ⟨⟨b2, fun _ => trivial, fun _ => ⟨d1, ⟨ie, fun _ => trivial, fun _ => okt⟩, fun _ => trivial, fun _ => ⟨(okc 0).2, (okc 0).1, fun _ => trivial, fun _ => ⟨(okc 2).2, (okc 1).2⟩⟩⟩⟩, ?_⟩
  cases hE : v_spec_IsEvents rest with
  | false => simp [bOr_eq, bNot_eq]
  | true =>
    cases hT : v_spec_IsTiming t with
    | false => simp [bOr_eq, bNot_eq]
    | true =>
      obtain ⟨ev, so⟩ := isEvents_s (by omega) hE
      rw [isTiming_eq] at hT
      have ht : ∀ f : Int, 0 ≤ f → f ≤ 2 → v_impl_IsTiming (t.1, t.2.1, f) = true := fun f h0 h2 => by
        rw [ve_impl_IsTiming] at hT ⊢
        simp only [bAnd_eq, iGe_eq, iLe_eq, Bool.and_eq_true, decide_eq_true_eq] at hT ⊢
        omega
      simp only [choiceOf_eq, bOr_eq, bAnd_eq, bNot_eq, bSel_eq, iNe_eq, iEq_eq, iGt_eq]
      by_cases hg : 0 ≤ time ∧ time ≤ 1000000
      · obtain ⟨g2, g3⟩ := hg
        rw [cho_eq _ key time rest _ (by omega) (ht 0 (by omega) (by omega)) g2 g3, cho_eq _ key time rest _ (by omega) (ht 2 (by omega) (by omega)) g2 g3, cho_eq _ key time rest _ (by omega) (ht 1 (by omega) (by omega)) g2 g3]
        simp only
        have r02 := chs_02 (key := key) (en := time + t.1) 0 0 ev
        have r21 := chs_21 (key := key) (en := time + t.1) 0 ev so
        have k0 := fun r h => chs_ok (fl := 0) (key := key) (en := time + t.1) (d := 0) (r := r) ev h
        have k2 := fun r h => chs_ok (fl := 2) (key := key) (en := time + t.1) (d := 0) (r := r) ev h
        generalize chs 0 key (time + t.1) rest 0 = A at r02 k0 ⊢
        generalize chs 2 key (time + t.1) rest 0 = B at r02 r21 k2 ⊢
        generalize chs 1 key (time + t.1) rest 0 = C at r21 ⊢
        generalize time + t.1 = en at *
        have fA : (chF en 1000000 A).1 = 2 → (chF en 1000000 A).2 = en := by
          cases A with
          | none =>
            show (if en ≤ 1000000 then ((2 : Int), en) else (0, 0)).1 = 2 → (if en ≤ 1000000 then ((2 : Int), en) else (0, 0)).2 = en
            split
            · exact fun _ => rfl
            · exact fun h => by cases h
          | some r => exact (k0 r rfl).2 rfl
        have fAB : chF en 1000000 B = chF en 1000000 A ∨ ((chF en 1000000 B).1 = 2 ∧ (chF en 1000000 B).2 < en) := by
          rcases r02 with h | ⟨u, h, hu⟩
          · rw [h]; exact .inl rfl
          · rw [h]; exact .inr ⟨rfl, hu⟩
        have fBC : chF en 1000000 C = chF en 1000000 B ∨ ((chF en 1000000 C).1 = 2 ∧ ((chF en 1000000 B).1 = 2 → (chF en 1000000 C).2 ≤ (chF en 1000000 B).2)) := by
          rcases r21 with h | ⟨u, h, hu, hr⟩
          · rw [h]; exact .inl rfl
          · rw [h]
            refine .inr ⟨rfl, fun h2 => ?_⟩
            cases B with
            | none =>
              have h2 : (if en ≤ 1000000 then ((2 : Int), en) else (0, 0)).1 = 2 := h2
              show u ≤ (if en ≤ 1000000 then ((2 : Int), en) else (0, 0)).2
              split at h2
              · rename_i hc; rw [if_pos hc]; exact Int.le_of_lt hu
              · cases h2
            | some r => exact hr r rfl
        generalize chF en 1000000 A = a at fA fAB ⊢
        generalize chF en 1000000 B = b at fAB fBC ⊢
        generalize chF en 1000000 C = c at fBC ⊢
        obtain ⟨a1, a2⟩ := a
        obtain ⟨b1, b2⟩ := b
        obtain ⟨c1, c2⟩ := c
        simp only [Prod.mk.injEq] at fA fAB fBC ⊢
        have p1 : b1 = 2 → c1 = 2 ∧ c2 ≤ b2 := by omega
        have p2 : a1 = 2 → b1 = 2 ∧ b2 ≤ a2 := by omega
        have p3 : c1 = 1 → b1 = 1 ∧ a1 = 1 ∧ a2 = c2 ∧ b2 = c2 := by omega
        have f1 : (decide (b1 = 2) && (!decide (c1 = 2) || decide (b2 < c2))) = false := by
          by_cases h : b1 = 2
          · obtain ⟨q1, q2⟩ := p1 h
            have : ¬ b2 < c2 := by omega
            simp [q1, this]
          · simp [h]
        have f2 : (!decide (c1 = 1) || (decide (b1 = 1) && (decide (a1 = 1) && (decide (a2 = c2) && decide (b2 = c2))))) = true := by
          by_cases h : c1 = 1
          · obtain ⟨q1, q2, q3, q4⟩ := p3 h
            simp [q1, q2, q3, q4]
          · simp [h]
        rw [f1, f2]
        by_cases h : a1 = 2
        · obtain ⟨q1, q2⟩ := p2 h
          have : ¬ a2 < b2 := by omega
          simp [h, q1, this]
        · simp [h]
      · have hb : ∀ f, v_impl_ChoiceOf ((t.1, t.2.1, f), key, time, rest, 1000000) = (0, 0) := fun f => cho_bad _ key time rest _ fun h => hg h.2
        simp [hb]
end Go.Ag
