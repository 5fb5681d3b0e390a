/- Part 7 of what FnExactNewEngine needs. No conditions. -/
import Derived.Test.YthljgcjmaabnoaaLibF
namespace Go.Ag
set_option linter.unusedSimpArgs false
set_option linter.unusedVariables false
section
set_option maxRecDepth 100000
noncomputable def lc_spec_IsEngine_1(x:Int×(List (List (Int×Int×Int×Int)))×(List (List (Int×Int×Int)))×Int×(List (Int×Int×Int×Int×Int))×Int×Bool)(x0:Int):Bool:=(bAnd (iLt x0 (lLen x.2.2.1)) (bNot (bNot (v_spec_IsMacro (lGet x.2.2.1 (iNat x0) [])))))
noncomputable def lf_spec_IsEngine_1(x0:Int):Int:=(iAdd .i64 x0 1)
noncomputable def lc_spec_IsEngine_2(x:Int×(List (List (Int×Int×Int×Int)))×(List (List (Int×Int×Int)))×Int×(List (Int×Int×Int×Int×Int))×Int×Bool)(x0:Int):Bool:=(bAnd (iLt x0 (lLen x.2.2.2.2.1)) (bNot (bOr (iGe (lGet x.2.2.2.2.1 (iNat x0) (0,0,0,0,0)).1 x.1) (bAnd (iNe (lGet x.2.2.2.2.1 (iNat x0) (0,0,0,0,0)).2.1 9) (iGe (lGet x.2.2.2.2.1 (iNat x0) (0,0,0,0,0)).2.2.2.2 (lLen x.2.1))))))
noncomputable def lp_spec_IsEngine_1(x:Int×(List (List (Int×Int×Int×Int)))×(List (List (Int×Int×Int)))×Int×(List (Int×Int×Int×Int×Int))×Int×Bool)(x0:Int):Prop:=(((iLt x0 (lLen x.2.2.1))=true→((((0:Int)≤x0)∧(x0<(((List.length x.2.2.1):Int))))∧(((iNat x0)<(List.length x.2.2.1))∧(ok_spec_IsMacro (lGet x.2.2.1 (iNat x0) [])))))∧((iLt x0 (lLen x.2.2.1))=false→True))
noncomputable def lp_spec_IsEngine_2(x:Int×(List (List (Int×Int×Int×Int)))×(List (List (Int×Int×Int)))×Int×(List (Int×Int×Int×Int×Int))×Int×Bool)(x0:Int):Prop:=(((iLt x0 (lLen x.2.2.2.2.1))=true→((((0:Int)≤x0)∧(x0<(((List.length x.2.2.2.2.1):Int))))∧(((iNat x0)<(List.length x.2.2.2.2.1))∧(((iGe (lGet x.2.2.2.2.1 (iNat x0) (0,0,0,0,0)).1 x.1)=true→True)∧((iGe (lGet x.2.2.2.2.1 (iNat x0) (0,0,0,0,0)).1 x.1)=false→((((0:Int)≤x0)∧(x0<(((List.length x.2.2.2.2.1):Int))))∧(((iNat x0)<(List.length x.2.2.2.2.1))∧(((iNe (lGet x.2.2.2.2.1 (iNat x0) (0,0,0,0,0)).2.1 9)=true→((((0:Int)≤x0)∧(x0<(((List.length x.2.2.2.2.1):Int))))∧((iNat x0)<(List.length x.2.2.2.2.1))))∧((iNe (lGet x.2.2.2.2.1 (iNat x0) (0,0,0,0,0)).2.1 9)=false→True)))))))))∧((iLt x0 (lLen x.2.2.2.2.1))=false→True))
theorem ve_spec_IsEngine (x):v_spec_IsEngine x=(bAnd (bNot (bOr (bNot (v_spec_IsKeymap (x.1,x.2.1))) (bOr (iGt (lLen x.2.2.1) 4) (bNot (v_spec_IsHeld x.2.2.2.2.1))))) (bAnd (bNot (iLt (loopV (lc_spec_IsEngine_1 x) lf_spec_IsEngine_1 0) (lLen x.2.2.1))) (bAnd (bNot (iLt (loopV (lc_spec_IsEngine_2 x) lf_spec_IsEngine_1 0) (lLen x.2.2.2.2.1))) (bAnd (v_spec_l1In (x.2.2.2.1,0,(iSub .i64 (iShl .i64 1 (lLen x.2.1)) 1))) (bAnd (iEq (iRem x.2.2.2.1 2) 0) (v_spec_l1In (x.2.2.2.2.2.1,0,15))))))):=(vu_spec_IsEngine x).trans (by kernel_rfl)
theorem oe_spec_IsEngine (x):ok_spec_IsEngine x=(((ok_spec_IsKeymap (x.1,x.2.1))∧(((bNot (v_spec_IsKeymap (x.1,x.2.1)))=true→True)∧((bNot (v_spec_IsKeymap (x.1,x.2.1)))=false→(((iGt (lLen x.2.2.1) 4)=true→True)∧((iGt (lLen x.2.2.1) 4)=false→(ok_spec_IsHeld x.2.2.2.2.1))))))∧(((bOr (bNot (v_spec_IsKeymap (x.1,x.2.1))) (bOr (iGt (lLen x.2.2.1) 4) (bNot (v_spec_IsHeld x.2.2.2.2.1))))=true→True)∧((bOr (bNot (v_spec_IsKeymap (x.1,x.2.1))) (bOr (iGt (lLen x.2.2.1) 4) (bNot (v_spec_IsHeld x.2.2.2.2.1))))=false→((LoopOk (lc_spec_IsEngine_1 x) lf_spec_IsEngine_1 (lp_spec_IsEngine_1 x) 0)∧(((iLt (loopV (lc_spec_IsEngine_1 x) lf_spec_IsEngine_1 0) (lLen x.2.2.1))=true→True)∧((iLt (loopV (lc_spec_IsEngine_1 x) lf_spec_IsEngine_1 0) (lLen x.2.2.1))=false→((LoopOk (lc_spec_IsEngine_2 x) lf_spec_IsEngine_1 (lp_spec_IsEngine_2 x) 0)∧(((iLt (loopV (lc_spec_IsEngine_2 x) lf_spec_IsEngine_1 0) (lLen x.2.2.2.2.1))=true→True)∧((iLt (loopV (lc_spec_IsEngine_2 x) lf_spec_IsEngine_1 0) (lLen x.2.2.2.2.1))=false→(((0:Int)≤(lLen x.2.1))∧((ok_spec_l1In (x.2.2.2.1,0,(iSub .i64 (iShl .i64 1 (lLen x.2.1)) 1)))∧(((v_spec_l1In (x.2.2.2.1,0,(iSub .i64 (iShl .i64 1 (lLen x.2.1)) 1)))=true→(((2:Int)≠0)∧(((iEq (iRem x.2.2.2.1 2) 0)=true→(ok_spec_l1In (x.2.2.2.2.2.1,0,15)))∧((iEq (iRem x.2.2.2.1 2) 0)=false→True))))∧((v_spec_l1In (x.2.2.2.1,0,(iSub .i64 (iShl .i64 1 (lLen x.2.1)) 1)))=false→True))))))))))))):=(ou_spec_IsEngine x).trans (by kernel_rfl)
noncomputable def lc_impl_IsEngine_1(x:Int×(List (List (Int×Int×Int×Int)))×(List (List (Int×Int×Int)))×Int×(List (Int×Int×Int×Int×Int))×Int×Bool)(x0:Int):Bool:=(bAnd (iLt x0 (lLen x.2.2.1)) (bNot (bNot (v_impl_IsMacro (lGet x.2.2.1 (iNat x0) [])))))
noncomputable def lf_impl_IsEngine_1(x0:Int):Int:=(iAdd .i64 x0 1)
noncomputable def lc_impl_IsEngine_2(x:Int×(List (List (Int×Int×Int×Int)))×(List (List (Int×Int×Int)))×Int×(List (Int×Int×Int×Int×Int))×Int×Bool)(x0:Int):Bool:=(bAnd (iLt x0 (lLen x.2.2.2.2.1)) (bNot (bOr (iGe (lGet x.2.2.2.2.1 (iNat x0) (0,0,0,0,0)).1 x.1) (bAnd (iNe (lGet x.2.2.2.2.1 (iNat x0) (0,0,0,0,0)).2.1 9) (iGe (lGet x.2.2.2.2.1 (iNat x0) (0,0,0,0,0)).2.2.2.2 (lLen x.2.1))))))
noncomputable def lp_impl_IsEngine_1(x:Int×(List (List (Int×Int×Int×Int)))×(List (List (Int×Int×Int)))×Int×(List (Int×Int×Int×Int×Int))×Int×Bool)(x0:Int):Prop:=(((iLt x0 (lLen x.2.2.1))=true→((((0:Int)≤x0)∧(x0<(((List.length x.2.2.1):Int))))∧(((iNat x0)<(List.length x.2.2.1))∧(ok_impl_IsMacro (lGet x.2.2.1 (iNat x0) [])))))∧((iLt x0 (lLen x.2.2.1))=false→True))
noncomputable def lp_impl_IsEngine_2(x:Int×(List (List (Int×Int×Int×Int)))×(List (List (Int×Int×Int)))×Int×(List (Int×Int×Int×Int×Int))×Int×Bool)(x0:Int):Prop:=(((iLt x0 (lLen x.2.2.2.2.1))=true→((((0:Int)≤x0)∧(x0<(((List.length x.2.2.2.2.1):Int))))∧((iNat x0)<(List.length x.2.2.2.2.1))))∧((iLt x0 (lLen x.2.2.2.2.1))=false→True))
theorem ve_impl_IsEngine (x):v_impl_IsEngine x=(bAnd (bNot (bOr (bNot (v_impl_IsKeymap (x.1,x.2.1))) (bOr (iGt (lLen x.2.2.1) 4) (bOr (bNot (v_impl_IsHeld x.2.2.2.2.1)) (bOr (iLt x.2.2.2.2.2.1 0) (iGt x.2.2.2.2.2.1 15)))))) (bAnd (bNot (iLt (loopV (lc_impl_IsEngine_1 x) lf_impl_IsEngine_1 0) (lLen x.2.2.1))) (bAnd (bNot (iLt (loopV (lc_impl_IsEngine_2 x) lf_impl_IsEngine_1 0) (lLen x.2.2.2.2.1))) (bAnd (iGe x.2.2.2.1 0) (bAnd (iEq (iRem x.2.2.2.1 2) 0) (iLt x.2.2.2.1 (iShl .i64 1 (lLen x.2.1)))))))):=(vu_impl_IsEngine x).trans (by kernel_rfl)
theorem oe_impl_IsEngine (x):ok_impl_IsEngine x=(((ok_impl_IsKeymap (x.1,x.2.1))∧(((bNot (v_impl_IsKeymap (x.1,x.2.1)))=true→True)∧((bNot (v_impl_IsKeymap (x.1,x.2.1)))=false→(((iGt (lLen x.2.2.1) 4)=true→True)∧((iGt (lLen x.2.2.1) 4)=false→(ok_impl_IsHeld x.2.2.2.2.1))))))∧(((bOr (bNot (v_impl_IsKeymap (x.1,x.2.1))) (bOr (iGt (lLen x.2.2.1) 4) (bOr (bNot (v_impl_IsHeld x.2.2.2.2.1)) (bOr (iLt x.2.2.2.2.2.1 0) (iGt x.2.2.2.2.2.1 15)))))=true→True)∧((bOr (bNot (v_impl_IsKeymap (x.1,x.2.1))) (bOr (iGt (lLen x.2.2.1) 4) (bOr (bNot (v_impl_IsHeld x.2.2.2.2.1)) (bOr (iLt x.2.2.2.2.2.1 0) (iGt x.2.2.2.2.2.1 15)))))=false→((LoopOk (lc_impl_IsEngine_1 x) lf_impl_IsEngine_1 (lp_impl_IsEngine_1 x) 0)∧(((iLt (loopV (lc_impl_IsEngine_1 x) lf_impl_IsEngine_1 0) (lLen x.2.2.1))=true→True)∧((iLt (loopV (lc_impl_IsEngine_1 x) lf_impl_IsEngine_1 0) (lLen x.2.2.1))=false→((LoopOk (lc_impl_IsEngine_2 x) lf_impl_IsEngine_1 (lp_impl_IsEngine_2 x) 0)∧(((iLt (loopV (lc_impl_IsEngine_2 x) lf_impl_IsEngine_1 0) (lLen x.2.2.2.2.1))=true→True)∧((iLt (loopV (lc_impl_IsEngine_2 x) lf_impl_IsEngine_1 0) (lLen x.2.2.2.2.1))=false→(((iGe x.2.2.2.1 0)=true→(((2:Int)≠0)∧(((iEq (iRem x.2.2.2.1 2) 0)=true→((0:Int)≤(lLen x.2.1)))∧((iEq (iRem x.2.2.2.1 2) 0)=false→True))))∧((iGe x.2.2.2.1 0)=false→True))))))))))):=(ou_impl_IsEngine x).trans (by kernel_rfl)
noncomputable def lc_spec_l9Copy_1(x:Int×(List (List (Int×Int×Int×Int)))×(List (List (Int×Int×Int)))×Int×(List (Int×Int×Int×Int×Int))×Int×Bool)(x0:(Int×(List (List (Int×(Int×Int)))))):Bool:=(iLt x0.1 (lLen x.2.2.1))
noncomputable def lf_spec_l9Copy_1(x:Int×(List (List (Int×Int×Int×Int)))×(List (List (Int×Int×Int)))×Int×(List (Int×Int×Int×Int×Int))×Int×Bool)(x0:(Int×(List (List (Int×(Int×Int)))))):(Int×(List (List (Int×(Int×Int))))):=((iAdd .i64 x0.1 1),(lApp x0.2 [(lApp [] (lGet x.2.2.1 (iNat x0.1) []))]))
noncomputable def lp_spec_l9Copy_1(x:Int×(List (List (Int×Int×Int×Int)))×(List (List (Int×Int×Int)))×Int×(List (Int×Int×Int×Int×Int))×Int×Bool)(x0:(Int×(List (List (Int×(Int×Int)))))):Prop:=(((iLt x0.1 (lLen x.2.2.1))=true→((((0:Int)≤x0.1)∧(x0.1<(((List.length x.2.2.1):Int))))∧(((iNat x0.1)<(List.length x.2.2.1))∧((roomy (((List.length ([]:List (Int×(Int×Int))))+(List.length (lGet x.2.2.1 (iNat x0.1) [])))*3))∧(roomy (((List.length x0.2)+(List.length [(lApp [] (lGet x.2.2.1 (iNat x0.1) []))]))*1))))))∧((iLt x0.1 (lLen x.2.2.1))=false→True))
theorem ve_spec_l9Copy (x):v_spec_l9Copy x=((v_spec_l6Copy (x.1,x.2.1)).1,(v_spec_l6Copy (x.1,x.2.1)).2,(loopV (lc_spec_l9Copy_1 x) (lf_spec_l9Copy_1 x) (0,[])).2,x.2.2.2.1,(lApp [] x.2.2.2.2.1),x.2.2.2.2.2):=(vu_spec_l9Copy x).trans (by kernel_rfl)
theorem oe_spec_l9Copy (x):ok_spec_l9Copy x=((ok_spec_l6Copy (x.1,x.2.1))∧((LoopOk (lc_spec_l9Copy_1 x) (lf_spec_l9Copy_1 x) (lp_spec_l9Copy_1 x) (0,[]))∧(roomy (((List.length ([]:List (Int×(Int×(Int×(Int×Int))))))+(List.length x.2.2.2.2.1))*5)))):=(ou_spec_l9Copy x).trans (by kernel_rfl)
theorem ve_spec_NewEngine (x):v_spec_NewEngine x=(bSel (bNot (v_spec_IsEngine (x.1.1,x.1.2,x.2,0,[],0,false))) ((0,[],[],0,[],0,false),false) ((v_spec_l9Copy (x.1.1,x.1.2,x.2,0,[],0,false)),true)):=(vu_spec_NewEngine x).trans (by kernel_rfl)
theorem oe_spec_NewEngine (x):ok_spec_NewEngine x=((ok_spec_IsEngine (x.1.1,x.1.2,x.2,0,[],0,false))∧(((bNot (v_spec_IsEngine (x.1.1,x.1.2,x.2,0,[],0,false)))=true→True)∧((bNot (v_spec_IsEngine (x.1.1,x.1.2,x.2,0,[],0,false)))=false→(ok_spec_l9Copy (x.1.1,x.1.2,x.2,0,[],0,false))))):=(ou_spec_NewEngine x).trans (by kernel_rfl)
noncomputable def lc_impl_copyMacros_1(x:List (List (Int×Int×Int)))(x0:((List (List (Int×(Int×Int))))×Int)):Bool:=(iLt x0.2 (lLen x))
noncomputable def lf_impl_copyMacros_1(x:List (List (Int×Int×Int)))(x0:((List (List (Int×(Int×Int))))×Int)):((List (List (Int×(Int×Int))))×Int):=((lApp x0.1 [(lGet x (iNat x0.2) [])]),(iAdd .i64 x0.2 1))
noncomputable def lp_impl_copyMacros_1(x:List (List (Int×Int×Int)))(x0:((List (List (Int×(Int×Int))))×Int)):Prop:=(((iLt x0.2 (lLen x))=true→((((0:Int)≤x0.2)∧(x0.2<(((List.length x):Int))))∧(((iNat x0.2)<(List.length x))∧((roomy ((List.length (lGet x (iNat x0.2) []))*3))∧(roomy (((List.length x0.1)+(List.length [(lGet x (iNat x0.2) [])]))*1))))))∧((iLt x0.2 (lLen x))=false→True))
theorem ve_impl_copyMacros (x):v_impl_copyMacros x=(loopV (lc_impl_copyMacros_1 x) (lf_impl_copyMacros_1 x) ([],0)).1:=(vu_impl_copyMacros x).trans (by kernel_rfl)
theorem oe_impl_copyMacros (x):ok_impl_copyMacros x=(LoopOk (lc_impl_copyMacros_1 x) (lf_impl_copyMacros_1 x) (lp_impl_copyMacros_1 x) ([],0)):=(ou_impl_copyMacros x).trans (by kernel_rfl)
theorem ve_impl_NewEngine (x):v_impl_NewEngine x=(bSel (bNot (v_impl_IsEngine ((v_impl_copyKeymap x.1).1,(v_impl_copyKeymap x.1).2,(v_impl_copyMacros x.2),0,[],0,false))) ((0,[],[],0,[],0,false),false) (((v_impl_copyKeymap x.1).1,(v_impl_copyKeymap x.1).2,(v_impl_copyMacros x.2),0,[],0,false),true)):=(vu_impl_NewEngine x).trans (by kernel_rfl)
theorem oe_impl_NewEngine (x):ok_impl_NewEngine x=((ok_impl_copyKeymap x.1)∧((ok_impl_copyMacros x.2)∧(ok_impl_IsEngine ((v_impl_copyKeymap x.1).1,(v_impl_copyKeymap x.1).2,(v_impl_copyMacros x.2),0,[],0,false)))):=(ou_impl_NewEngine x).trans (by kernel_rfl)
theorem ve_laws_heldStepS (x):v_laws_heldStepS x=(bSel (iLt (loopV (fun(x0:(Int×Int))=>(bAnd (iLt x0.2 (lLen x.1)) (bAnd (bNot (iNe (lGet x.1 (iNat x0.2) (0,0,0)).1 x0.1)) (bAnd (bNot (iNe (lGet x.1 (iNat x0.2) (0,0,0)).2.1 (iAdd .i64 x0.1 1))) (bNot (iNe (lGet x.1 (iNat x0.2) (0,0,0)).2.2 (iAdd .i64 (iAdd .i64 x0.1 1) 1))))))) (fun(x0:(Int×Int))=>((iAdd .i64 (iAdd .i64 (iAdd .i64 x0.1 1) 1) 1),(iAdd .i64 x0.2 1))) (x.2,0)).2 (lLen x.1)) (bSel (iNe (lGet x.1 (iNat (loopV (fun(x0:(Int×Int))=>(bAnd (iLt x0.2 (lLen x.1)) (bAnd (bNot (iNe (lGet x.1 (iNat x0.2) (0,0,0)).1 x0.1)) (bAnd (bNot (iNe (lGet x.1 (iNat x0.2) (0,0,0)).2.1 (iAdd .i64 x0.1 1))) (bNot (iNe (lGet x.1 (iNat x0.2) (0,0,0)).2.2 (iAdd .i64 (iAdd .i64 x0.1 1) 1))))))) (fun(x0:(Int×Int))=>((iAdd .i64 (iAdd .i64 (iAdd .i64 x0.1 1) 1) 1),(iAdd .i64 x0.2 1))) (x.2,0)).2) (0,0,0)).1 (loopV (fun(x0:(Int×Int))=>(bAnd (iLt x0.2 (lLen x.1)) (bAnd (bNot (iNe (lGet x.1 (iNat x0.2) (0,0,0)).1 x0.1)) (bAnd (bNot (iNe (lGet x.1 (iNat x0.2) (0,0,0)).2.1 (iAdd .i64 x0.1 1))) (bNot (iNe (lGet x.1 (iNat x0.2) (0,0,0)).2.2 (iAdd .i64 (iAdd .i64 x0.1 1) 1))))))) (fun(x0:(Int×Int))=>((iAdd .i64 (iAdd .i64 (iAdd .i64 x0.1 1) 1) 1),(iAdd .i64 x0.2 1))) (x.2,0)).1) (-1) (bSel (iNe (lGet x.1 (iNat (loopV (fun(x0:(Int×Int))=>(bAnd (iLt x0.2 (lLen x.1)) (bAnd (bNot (iNe (lGet x.1 (iNat x0.2) (0,0,0)).1 x0.1)) (bAnd (bNot (iNe (lGet x.1 (iNat x0.2) (0,0,0)).2.1 (iAdd .i64 x0.1 1))) (bNot (iNe (lGet x.1 (iNat x0.2) (0,0,0)).2.2 (iAdd .i64 (iAdd .i64 x0.1 1) 1))))))) (fun(x0:(Int×Int))=>((iAdd .i64 (iAdd .i64 (iAdd .i64 x0.1 1) 1) 1),(iAdd .i64 x0.2 1))) (x.2,0)).2) (0,0,0)).2.1 (iAdd .i64 (loopV (fun(x0:(Int×Int))=>(bAnd (iLt x0.2 (lLen x.1)) (bAnd (bNot (iNe (lGet x.1 (iNat x0.2) (0,0,0)).1 x0.1)) (bAnd (bNot (iNe (lGet x.1 (iNat x0.2) (0,0,0)).2.1 (iAdd .i64 x0.1 1))) (bNot (iNe (lGet x.1 (iNat x0.2) (0,0,0)).2.2 (iAdd .i64 (iAdd .i64 x0.1 1) 1))))))) (fun(x0:(Int×Int))=>((iAdd .i64 (iAdd .i64 (iAdd .i64 x0.1 1) 1) 1),(iAdd .i64 x0.2 1))) (x.2,0)).1 1)) (-1) (-1))) (loopV (fun(x0:(Int×Int))=>(bAnd (iLt x0.2 (lLen x.1)) (bAnd (bNot (iNe (lGet x.1 (iNat x0.2) (0,0,0)).1 x0.1)) (bAnd (bNot (iNe (lGet x.1 (iNat x0.2) (0,0,0)).2.1 (iAdd .i64 x0.1 1))) (bNot (iNe (lGet x.1 (iNat x0.2) (0,0,0)).2.2 (iAdd .i64 (iAdd .i64 x0.1 1) 1))))))) (fun(x0:(Int×Int))=>((iAdd .i64 (iAdd .i64 (iAdd .i64 x0.1 1) 1) 1),(iAdd .i64 x0.2 1))) (x.2,0)).1):=(vu_laws_heldStepS x).trans (by kernel_rfl)
theorem oe_laws_heldStepS (x):ok_laws_heldStepS x=(LoopOk (fun(x0:(Int×Int))=>(bAnd (iLt x0.2 (lLen x.1)) (bAnd (bNot (iNe (lGet x.1 (iNat x0.2) (0,0,0)).1 x0.1)) (bAnd (bNot (iNe (lGet x.1 (iNat x0.2) (0,0,0)).2.1 (iAdd .i64 x0.1 1))) (bNot (iNe (lGet x.1 (iNat x0.2) (0,0,0)).2.2 (iAdd .i64 (iAdd .i64 x0.1 1) 1))))))) (fun(x0:(Int×Int))=>((iAdd .i64 (iAdd .i64 (iAdd .i64 x0.1 1) 1) 1),(iAdd .i64 x0.2 1))) (fun(x0:(Int×Int))=>(((iLt x0.2 (lLen x.1))=true→((((0:Int)≤x0.2)∧(x0.2<(((List.length x.1):Int))))∧(((iNat x0.2)<(List.length x.1))∧(((iNe (lGet x.1 (iNat x0.2) (0,0,0)).1 x0.1)=true→True)∧((iNe (lGet x.1 (iNat x0.2) (0,0,0)).1 x0.1)=false→((((0:Int)≤x0.2)∧(x0.2<(((List.length x.1):Int))))∧(((iNat x0.2)<(List.length x.1))∧(((iNe (lGet x.1 (iNat x0.2) (0,0,0)).2.1 (iAdd .i64 x0.1 1))=true→True)∧((iNe (lGet x.1 (iNat x0.2) (0,0,0)).2.1 (iAdd .i64 x0.1 1))=false→((((0:Int)≤x0.2)∧(x0.2<(((List.length x.1):Int))))∧((iNat x0.2)<(List.length x.1))))))))))))∧((iLt x0.2 (lLen x.1))=false→True))) (x.2,0)):=(ou_laws_heldStepS x).trans (by kernel_rfl)
theorem ve_laws_heldStepSS (x):v_laws_heldStepSS x=(bSel (iLt (loopV (fun(x0:(Int×Int))=>(bAnd (iLt x0.2 (lLen x.1)) (bNot (iLt (v_laws_heldStepS ((lGet x.1 (iNat x0.2) []),x0.1)) 0)))) (fun(x0:(Int×Int))=>((v_laws_heldStepS ((lGet x.1 (iNat x0.2) []),x0.1)),(iAdd .i64 x0.2 1))) (x.2,0)).2 (lLen x.1)) (-1) (loopV (fun(x0:(Int×Int))=>(bAnd (iLt x0.2 (lLen x.1)) (bNot (iLt (v_laws_heldStepS ((lGet x.1 (iNat x0.2) []),x0.1)) 0)))) (fun(x0:(Int×Int))=>((v_laws_heldStepS ((lGet x.1 (iNat x0.2) []),x0.1)),(iAdd .i64 x0.2 1))) (x.2,0)).1):=(vu_laws_heldStepSS x).trans (by kernel_rfl)
theorem oe_laws_heldStepSS (x):ok_laws_heldStepSS x=(LoopOk (fun(x0:(Int×Int))=>(bAnd (iLt x0.2 (lLen x.1)) (bNot (iLt (v_laws_heldStepS ((lGet x.1 (iNat x0.2) []),x0.1)) 0)))) (fun(x0:(Int×Int))=>((v_laws_heldStepS ((lGet x.1 (iNat x0.2) []),x0.1)),(iAdd .i64 x0.2 1))) (fun(x0:(Int×Int))=>(((iLt x0.2 (lLen x.1))=true→((((0:Int)≤x0.2)∧(x0.2<(((List.length x.1):Int))))∧(((iNat x0.2)<(List.length x.1))∧(ok_laws_heldStepS ((lGet x.1 (iNat x0.2) []),x0.1)))))∧((iLt x0.2 (lLen x.1))=false→True))) (x.2,0)):=(ou_laws_heldStepSS x).trans (by kernel_rfl)
theorem ve_laws_heldHeldS (x):v_laws_heldHeldS x=(bSel (iLt (loopV (fun(x0:(Int×Int))=>(bAnd (iLt x0.2 (lLen x.1)) (bAnd (bNot (iNe (lGet x.1 (iNat x0.2) (0,0,0,0,0)).1 x0.1)) (bAnd (bNot (iNe (lGet x.1 (iNat x0.2) (0,0,0,0,0)).2.1 (iAdd .i64 x0.1 1))) (bAnd (bNot (iNe (lGet x.1 (iNat x0.2) (0,0,0,0,0)).2.2.1 (iAdd .i64 (iAdd .i64 x0.1 1) 1))) (bAnd (bNot (iNe (lGet x.1 (iNat x0.2) (0,0,0,0,0)).2.2.2.1 (iAdd .i64 (iAdd .i64 (iAdd .i64 x0.1 1) 1) 1))) (bNot (iNe (lGet x.1 (iNat x0.2) (0,0,0,0,0)).2.2.2.2 (iAdd .i64 (iAdd .i64 (iAdd .i64 (iAdd .i64 x0.1 1) 1) 1) 1))))))))) (fun(x0:(Int×Int))=>((iAdd .i64 (iAdd .i64 (iAdd .i64 (iAdd .i64 (iAdd .i64 x0.1 1) 1) 1) 1) 1),(iAdd .i64 x0.2 1))) (x.2,0)).2 (lLen x.1)) (bSel (iNe (lGet x.1 (iNat (loopV (fun(x0:(Int×Int))=>(bAnd (iLt x0.2 (lLen x.1)) (bAnd (bNot (iNe (lGet x.1 (iNat x0.2) (0,0,0,0,0)).1 x0.1)) (bAnd (bNot (iNe (lGet x.1 (iNat x0.2) (0,0,0,0,0)).2.1 (iAdd .i64 x0.1 1))) (bAnd (bNot (iNe (lGet x.1 (iNat x0.2) (0,0,0,0,0)).2.2.1 (iAdd .i64 (iAdd .i64 x0.1 1) 1))) (bAnd (bNot (iNe (lGet x.1 (iNat x0.2) (0,0,0,0,0)).2.2.2.1 (iAdd .i64 (iAdd .i64 (iAdd .i64 x0.1 1) 1) 1))) (bNot (iNe (lGet x.1 (iNat x0.2) (0,0,0,0,0)).2.2.2.2 (iAdd .i64 (iAdd .i64 (iAdd .i64 (iAdd .i64 x0.1 1) 1) 1) 1))))))))) (fun(x0:(Int×Int))=>((iAdd .i64 (iAdd .i64 (iAdd .i64 (iAdd .i64 (iAdd .i64 x0.1 1) 1) 1) 1) 1),(iAdd .i64 x0.2 1))) (x.2,0)).2) (0,0,0,0,0)).1 (loopV (fun(x0:(Int×Int))=>(bAnd (iLt x0.2 (lLen x.1)) (bAnd (bNot (iNe (lGet x.1 (iNat x0.2) (0,0,0,0,0)).1 x0.1)) (bAnd (bNot (iNe (lGet x.1 (iNat x0.2) (0,0,0,0,0)).2.1 (iAdd .i64 x0.1 1))) (bAnd (bNot (iNe (lGet x.1 (iNat x0.2) (0,0,0,0,0)).2.2.1 (iAdd .i64 (iAdd .i64 x0.1 1) 1))) (bAnd (bNot (iNe (lGet x.1 (iNat x0.2) (0,0,0,0,0)).2.2.2.1 (iAdd .i64 (iAdd .i64 (iAdd .i64 x0.1 1) 1) 1))) (bNot (iNe (lGet x.1 (iNat x0.2) (0,0,0,0,0)).2.2.2.2 (iAdd .i64 (iAdd .i64 (iAdd .i64 (iAdd .i64 x0.1 1) 1) 1) 1))))))))) (fun(x0:(Int×Int))=>((iAdd .i64 (iAdd .i64 (iAdd .i64 (iAdd .i64 (iAdd .i64 x0.1 1) 1) 1) 1) 1),(iAdd .i64 x0.2 1))) (x.2,0)).1) (-1) (bSel (iNe (lGet x.1 (iNat (loopV (fun(x0:(Int×Int))=>(bAnd (iLt x0.2 (lLen x.1)) (bAnd (bNot (iNe (lGet x.1 (iNat x0.2) (0,0,0,0,0)).1 x0.1)) (bAnd (bNot (iNe (lGet x.1 (iNat x0.2) (0,0,0,0,0)).2.1 (iAdd .i64 x0.1 1))) (bAnd (bNot (iNe (lGet x.1 (iNat x0.2) (0,0,0,0,0)).2.2.1 (iAdd .i64 (iAdd .i64 x0.1 1) 1))) (bAnd (bNot (iNe (lGet x.1 (iNat x0.2) (0,0,0,0,0)).2.2.2.1 (iAdd .i64 (iAdd .i64 (iAdd .i64 x0.1 1) 1) 1))) (bNot (iNe (lGet x.1 (iNat x0.2) (0,0,0,0,0)).2.2.2.2 (iAdd .i64 (iAdd .i64 (iAdd .i64 (iAdd .i64 x0.1 1) 1) 1) 1))))))))) (fun(x0:(Int×Int))=>((iAdd .i64 (iAdd .i64 (iAdd .i64 (iAdd .i64 (iAdd .i64 x0.1 1) 1) 1) 1) 1),(iAdd .i64 x0.2 1))) (x.2,0)).2) (0,0,0,0,0)).2.1 (iAdd .i64 (loopV (fun(x0:(Int×Int))=>(bAnd (iLt x0.2 (lLen x.1)) (bAnd (bNot (iNe (lGet x.1 (iNat x0.2) (0,0,0,0,0)).1 x0.1)) (bAnd (bNot (iNe (lGet x.1 (iNat x0.2) (0,0,0,0,0)).2.1 (iAdd .i64 x0.1 1))) (bAnd (bNot (iNe (lGet x.1 (iNat x0.2) (0,0,0,0,0)).2.2.1 (iAdd .i64 (iAdd .i64 x0.1 1) 1))) (bAnd (bNot (iNe (lGet x.1 (iNat x0.2) (0,0,0,0,0)).2.2.2.1 (iAdd .i64 (iAdd .i64 (iAdd .i64 x0.1 1) 1) 1))) (bNot (iNe (lGet x.1 (iNat x0.2) (0,0,0,0,0)).2.2.2.2 (iAdd .i64 (iAdd .i64 (iAdd .i64 (iAdd .i64 x0.1 1) 1) 1) 1))))))))) (fun(x0:(Int×Int))=>((iAdd .i64 (iAdd .i64 (iAdd .i64 (iAdd .i64 (iAdd .i64 x0.1 1) 1) 1) 1) 1),(iAdd .i64 x0.2 1))) (x.2,0)).1 1)) (-1) (bSel (iNe (lGet x.1 (iNat (loopV (fun(x0:(Int×Int))=>(bAnd (iLt x0.2 (lLen x.1)) (bAnd (bNot (iNe (lGet x.1 (iNat x0.2) (0,0,0,0,0)).1 x0.1)) (bAnd (bNot (iNe (lGet x.1 (iNat x0.2) (0,0,0,0,0)).2.1 (iAdd .i64 x0.1 1))) (bAnd (bNot (iNe (lGet x.1 (iNat x0.2) (0,0,0,0,0)).2.2.1 (iAdd .i64 (iAdd .i64 x0.1 1) 1))) (bAnd (bNot (iNe (lGet x.1 (iNat x0.2) (0,0,0,0,0)).2.2.2.1 (iAdd .i64 (iAdd .i64 (iAdd .i64 x0.1 1) 1) 1))) (bNot (iNe (lGet x.1 (iNat x0.2) (0,0,0,0,0)).2.2.2.2 (iAdd .i64 (iAdd .i64 (iAdd .i64 (iAdd .i64 x0.1 1) 1) 1) 1))))))))) (fun(x0:(Int×Int))=>((iAdd .i64 (iAdd .i64 (iAdd .i64 (iAdd .i64 (iAdd .i64 x0.1 1) 1) 1) 1) 1),(iAdd .i64 x0.2 1))) (x.2,0)).2) (0,0,0,0,0)).2.2.1 (iAdd .i64 (iAdd .i64 (loopV (fun(x0:(Int×Int))=>(bAnd (iLt x0.2 (lLen x.1)) (bAnd (bNot (iNe (lGet x.1 (iNat x0.2) (0,0,0,0,0)).1 x0.1)) (bAnd (bNot (iNe (lGet x.1 (iNat x0.2) (0,0,0,0,0)).2.1 (iAdd .i64 x0.1 1))) (bAnd (bNot (iNe (lGet x.1 (iNat x0.2) (0,0,0,0,0)).2.2.1 (iAdd .i64 (iAdd .i64 x0.1 1) 1))) (bAnd (bNot (iNe (lGet x.1 (iNat x0.2) (0,0,0,0,0)).2.2.2.1 (iAdd .i64 (iAdd .i64 (iAdd .i64 x0.1 1) 1) 1))) (bNot (iNe (lGet x.1 (iNat x0.2) (0,0,0,0,0)).2.2.2.2 (iAdd .i64 (iAdd .i64 (iAdd .i64 (iAdd .i64 x0.1 1) 1) 1) 1))))))))) (fun(x0:(Int×Int))=>((iAdd .i64 (iAdd .i64 (iAdd .i64 (iAdd .i64 (iAdd .i64 x0.1 1) 1) 1) 1) 1),(iAdd .i64 x0.2 1))) (x.2,0)).1 1) 1)) (-1) (bSel (iNe (lGet x.1 (iNat (loopV (fun(x0:(Int×Int))=>(bAnd (iLt x0.2 (lLen x.1)) (bAnd (bNot (iNe (lGet x.1 (iNat x0.2) (0,0,0,0,0)).1 x0.1)) (bAnd (bNot (iNe (lGet x.1 (iNat x0.2) (0,0,0,0,0)).2.1 (iAdd .i64 x0.1 1))) (bAnd (bNot (iNe (lGet x.1 (iNat x0.2) (0,0,0,0,0)).2.2.1 (iAdd .i64 (iAdd .i64 x0.1 1) 1))) (bAnd (bNot (iNe (lGet x.1 (iNat x0.2) (0,0,0,0,0)).2.2.2.1 (iAdd .i64 (iAdd .i64 (iAdd .i64 x0.1 1) 1) 1))) (bNot (iNe (lGet x.1 (iNat x0.2) (0,0,0,0,0)).2.2.2.2 (iAdd .i64 (iAdd .i64 (iAdd .i64 (iAdd .i64 x0.1 1) 1) 1) 1))))))))) (fun(x0:(Int×Int))=>((iAdd .i64 (iAdd .i64 (iAdd .i64 (iAdd .i64 (iAdd .i64 x0.1 1) 1) 1) 1) 1),(iAdd .i64 x0.2 1))) (x.2,0)).2) (0,0,0,0,0)).2.2.2.1 (iAdd .i64 (iAdd .i64 (iAdd .i64 (loopV (fun(x0:(Int×Int))=>(bAnd (iLt x0.2 (lLen x.1)) (bAnd (bNot (iNe (lGet x.1 (iNat x0.2) (0,0,0,0,0)).1 x0.1)) (bAnd (bNot (iNe (lGet x.1 (iNat x0.2) (0,0,0,0,0)).2.1 (iAdd .i64 x0.1 1))) (bAnd (bNot (iNe (lGet x.1 (iNat x0.2) (0,0,0,0,0)).2.2.1 (iAdd .i64 (iAdd .i64 x0.1 1) 1))) (bAnd (bNot (iNe (lGet x.1 (iNat x0.2) (0,0,0,0,0)).2.2.2.1 (iAdd .i64 (iAdd .i64 (iAdd .i64 x0.1 1) 1) 1))) (bNot (iNe (lGet x.1 (iNat x0.2) (0,0,0,0,0)).2.2.2.2 (iAdd .i64 (iAdd .i64 (iAdd .i64 (iAdd .i64 x0.1 1) 1) 1) 1))))))))) (fun(x0:(Int×Int))=>((iAdd .i64 (iAdd .i64 (iAdd .i64 (iAdd .i64 (iAdd .i64 x0.1 1) 1) 1) 1) 1),(iAdd .i64 x0.2 1))) (x.2,0)).1 1) 1) 1)) (-1) (-1))))) (loopV (fun(x0:(Int×Int))=>(bAnd (iLt x0.2 (lLen x.1)) (bAnd (bNot (iNe (lGet x.1 (iNat x0.2) (0,0,0,0,0)).1 x0.1)) (bAnd (bNot (iNe (lGet x.1 (iNat x0.2) (0,0,0,0,0)).2.1 (iAdd .i64 x0.1 1))) (bAnd (bNot (iNe (lGet x.1 (iNat x0.2) (0,0,0,0,0)).2.2.1 (iAdd .i64 (iAdd .i64 x0.1 1) 1))) (bAnd (bNot (iNe (lGet x.1 (iNat x0.2) (0,0,0,0,0)).2.2.2.1 (iAdd .i64 (iAdd .i64 (iAdd .i64 x0.1 1) 1) 1))) (bNot (iNe (lGet x.1 (iNat x0.2) (0,0,0,0,0)).2.2.2.2 (iAdd .i64 (iAdd .i64 (iAdd .i64 (iAdd .i64 x0.1 1) 1) 1) 1))))))))) (fun(x0:(Int×Int))=>((iAdd .i64 (iAdd .i64 (iAdd .i64 (iAdd .i64 (iAdd .i64 x0.1 1) 1) 1) 1) 1),(iAdd .i64 x0.2 1))) (x.2,0)).1):=(vu_laws_heldHeldS x).trans (by kernel_rfl)
theorem oe_laws_heldHeldS (x):ok_laws_heldHeldS x=(LoopOk (fun(x0:(Int×Int))=>(bAnd (iLt x0.2 (lLen x.1)) (bAnd (bNot (iNe (lGet x.1 (iNat x0.2) (0,0,0,0,0)).1 x0.1)) (bAnd (bNot (iNe (lGet x.1 (iNat x0.2) (0,0,0,0,0)).2.1 (iAdd .i64 x0.1 1))) (bAnd (bNot (iNe (lGet x.1 (iNat x0.2) (0,0,0,0,0)).2.2.1 (iAdd .i64 (iAdd .i64 x0.1 1) 1))) (bAnd (bNot (iNe (lGet x.1 (iNat x0.2) (0,0,0,0,0)).2.2.2.1 (iAdd .i64 (iAdd .i64 (iAdd .i64 x0.1 1) 1) 1))) (bNot (iNe (lGet x.1 (iNat x0.2) (0,0,0,0,0)).2.2.2.2 (iAdd .i64 (iAdd .i64 (iAdd .i64 (iAdd .i64 x0.1 1) 1) 1) 1))))))))) (fun(x0:(Int×Int))=>((iAdd .i64 (iAdd .i64 (iAdd .i64 (iAdd .i64 (iAdd .i64 x0.1 1) 1) 1) 1) 1),(iAdd .i64 x0.2 1))) (fun(x0:(Int×Int))=>(((iLt x0.2 (lLen x.1))=true→((((0:Int)≤x0.2)∧(x0.2<(((List.length x.1):Int))))∧(((iNat x0.2)<(List.length x.1))∧(((iNe (lGet x.1 (iNat x0.2) (0,0,0,0,0)).1 x0.1)=true→True)∧((iNe (lGet x.1 (iNat x0.2) (0,0,0,0,0)).1 x0.1)=false→((((0:Int)≤x0.2)∧(x0.2<(((List.length x.1):Int))))∧(((iNat x0.2)<(List.length x.1))∧(((iNe (lGet x.1 (iNat x0.2) (0,0,0,0,0)).2.1 (iAdd .i64 x0.1 1))=true→True)∧((iNe (lGet x.1 (iNat x0.2) (0,0,0,0,0)).2.1 (iAdd .i64 x0.1 1))=false→((((0:Int)≤x0.2)∧(x0.2<(((List.length x.1):Int))))∧(((iNat x0.2)<(List.length x.1))∧(((iNe (lGet x.1 (iNat x0.2) (0,0,0,0,0)).2.2.1 (iAdd .i64 (iAdd .i64 x0.1 1) 1))=true→True)∧((iNe (lGet x.1 (iNat x0.2) (0,0,0,0,0)).2.2.1 (iAdd .i64 (iAdd .i64 x0.1 1) 1))=false→((((0:Int)≤x0.2)∧(x0.2<(((List.length x.1):Int))))∧(((iNat x0.2)<(List.length x.1))∧(((iNe (lGet x.1 (iNat x0.2) (0,0,0,0,0)).2.2.2.1 (iAdd .i64 (iAdd .i64 (iAdd .i64 x0.1 1) 1) 1))=true→True)∧((iNe (lGet x.1 (iNat x0.2) (0,0,0,0,0)).2.2.2.1 (iAdd .i64 (iAdd .i64 (iAdd .i64 x0.1 1) 1) 1))=false→((((0:Int)≤x0.2)∧(x0.2<(((List.length x.1):Int))))∧((iNat x0.2)<(List.length x.1))))))))))))))))))))∧((iLt x0.2 (lLen x.1))=false→True))) (x.2,0)):=(ou_laws_heldHeldS x).trans (by kernel_rfl)
theorem ve_laws_heldEngine (x):v_laws_heldEngine x=(bSel (iLt (v_laws_heldKeymap ((x.1.1,x.1.2.1),x.2)) 0) (-1) (bSel (iLt (v_laws_heldStepSS (x.1.2.2.1,(v_laws_heldKeymap ((x.1.1,x.1.2.1),x.2)))) 0) (-1) (bSel (iLt (v_laws_heldHeldS (x.1.2.2.2.2.1,(v_laws_heldStepSS (x.1.2.2.1,(v_laws_heldKeymap ((x.1.1,x.1.2.1),x.2)))))) 0) (-1) (v_laws_heldHeldS (x.1.2.2.2.2.1,(v_laws_heldStepSS (x.1.2.2.1,(v_laws_heldKeymap ((x.1.1,x.1.2.1),x.2))))))))):=(vu_laws_heldEngine x).trans (by kernel_rfl)
theorem oe_laws_heldEngine (x):ok_laws_heldEngine x=((ok_laws_heldKeymap ((x.1.1,x.1.2.1),x.2))∧(((iLt (v_laws_heldKeymap ((x.1.1,x.1.2.1),x.2)) 0)=true→True)∧((iLt (v_laws_heldKeymap ((x.1.1,x.1.2.1),x.2)) 0)=false→((ok_laws_heldStepSS (x.1.2.2.1,(v_laws_heldKeymap ((x.1.1,x.1.2.1),x.2))))∧(((iLt (v_laws_heldStepSS (x.1.2.2.1,(v_laws_heldKeymap ((x.1.1,x.1.2.1),x.2)))) 0)=true→True)∧((iLt (v_laws_heldStepSS (x.1.2.2.1,(v_laws_heldKeymap ((x.1.1,x.1.2.1),x.2)))) 0)=false→(ok_laws_heldHeldS (x.1.2.2.2.2.1,(v_laws_heldStepSS (x.1.2.2.1,(v_laws_heldKeymap ((x.1.1,x.1.2.1),x.2)))))))))))):=(ou_laws_heldEngine x).trans (by kernel_rfl)
theorem ve_laws_FnExactNewEngine (x):v_laws_FnExactNewEngine x=(bOr (iLt (v_laws_szKeymap (x.1,1048576)) 0) (bOr (iLt (v_laws_szStepSS (x.2,(v_laws_szKeymap (x.1,1048576)))) 0) (bAnd (bNot (bOr (bNot (v_laws_eqEngine ((v_impl_NewEngine ((v_laws_toKeymap x.1),(v_laws_toStepSS x.2))).1,(v_spec_NewEngine ((v_laws_toKeymap x.1),(v_laws_toStepSS x.2))).1))) (bNot (bIff (v_impl_NewEngine ((v_laws_toKeymap x.1),(v_laws_toStepSS x.2))).2 (v_spec_NewEngine ((v_laws_toKeymap x.1),(v_laws_toStepSS x.2))).2)))) (bAnd (bNot (bNot (v_laws_eqKeymap ((v_laws_toKeymap x.1),(v_laws_toKeymap x.1))))) (bAnd (bNot (bNot (v_laws_eqStepSS ((v_laws_toStepSS x.2),(v_laws_toStepSS x.2))))) (bAnd (bNot (bOr (iLt (mg_laws_markStepSS (v_laws_toStepSS x.2) (mg_laws_markKeymap (v_laws_toKeymap x.1) 1).2).2 0) (bOr (bNot (v_laws_eqEngine ((v_impl_NewEngine ((v_laws_toKeymap x.1),(v_laws_toStepSS x.2))).1,(v_spec_NewEngine ((v_laws_toKeymap x.1),(v_laws_toStepSS x.2))).1))) (bNot (bIff (v_impl_NewEngine ((v_laws_toKeymap x.1),(v_laws_toStepSS x.2))).2 (v_spec_NewEngine ((v_laws_toKeymap x.1),(v_laws_toStepSS x.2))).2))))) (bAnd (bNot (iLt (v_laws_heldEngine (((v_impl_NewEngine ((v_laws_toKeymap x.1),(v_laws_toStepSS x.2))).1.1,(mg_laws_markEngine (v_impl_NewEngine ((v_laws_toKeymap x.1),(v_laws_toStepSS x.2))).1 1).1.2.1,(mg_laws_markEngine (v_impl_NewEngine ((v_laws_toKeymap x.1),(v_laws_toStepSS x.2))).1 1).1.2.2.1,(v_impl_NewEngine ((v_laws_toKeymap x.1),(v_laws_toStepSS x.2))).1.2.2.2.1,(mg_laws_markEngine (v_impl_NewEngine ((v_laws_toKeymap x.1),(v_laws_toStepSS x.2))).1 1).1.2.2.2.2.1,(v_impl_NewEngine ((v_laws_toKeymap x.1),(v_laws_toStepSS x.2))).1.2.2.2.2.2),1)) 0)) (bAnd (bNot (iNe (v_laws_heldEngine (((v_impl_NewEngine ((v_laws_toKeymap x.1),(v_laws_toStepSS x.2))).1.1,(mg_laws_markEngine (v_impl_NewEngine ((v_laws_toKeymap x.1),(v_laws_toStepSS x.2))).1 1).1.2.1,(mg_laws_markEngine (v_impl_NewEngine ((v_laws_toKeymap x.1),(v_laws_toStepSS x.2))).1 1).1.2.2.1,(v_impl_NewEngine ((v_laws_toKeymap x.1),(v_laws_toStepSS x.2))).1.2.2.2.1,(mg_laws_markEngine (v_impl_NewEngine ((v_laws_toKeymap x.1),(v_laws_toStepSS x.2))).1 1).1.2.2.2.2.1,(v_impl_NewEngine ((v_laws_toKeymap x.1),(v_laws_toStepSS x.2))).1.2.2.2.2.2),1)) (mg_laws_markEngine (v_impl_NewEngine ((v_laws_toKeymap x.1),(v_laws_toStepSS x.2))).1 1).2)) (bAnd (bNot (bOr (bNot (v_laws_eqEngine ((v_impl_NewEngine ((v_laws_toKeymap x.1),(v_laws_toStepSS x.2))).1,(v_spec_NewEngine ((v_laws_toKeymap x.1),(v_laws_toStepSS x.2))).1))) (bNot (bIff (v_impl_NewEngine ((v_laws_toKeymap x.1),(v_laws_toStepSS x.2))).2 (v_spec_NewEngine ((v_laws_toKeymap x.1),(v_laws_toStepSS x.2))).2)))) (bAnd (bNot (iLt (v_laws_heldEngine (((v_impl_NewEngine ((v_laws_toKeymap x.1),(v_laws_toStepSS x.2))).1.1,(mg_laws_markEngine (v_impl_NewEngine ((v_laws_toKeymap x.1),(v_laws_toStepSS x.2))).1 1).1.2.1,(mg_laws_markEngine (v_impl_NewEngine ((v_laws_toKeymap x.1),(v_laws_toStepSS x.2))).1 1).1.2.2.1,(v_impl_NewEngine ((v_laws_toKeymap x.1),(v_laws_toStepSS x.2))).1.2.2.2.1,(mg_laws_markEngine (v_impl_NewEngine ((v_laws_toKeymap x.1),(v_laws_toStepSS x.2))).1 1).1.2.2.2.2.1,(v_impl_NewEngine ((v_laws_toKeymap x.1),(v_laws_toStepSS x.2))).1.2.2.2.2.2),1)) 0)) (bNot (iNe (v_laws_heldEngine (((v_impl_NewEngine ((v_laws_toKeymap x.1),(v_laws_toStepSS x.2))).1.1,(mg_laws_markEngine (v_impl_NewEngine ((v_laws_toKeymap x.1),(v_laws_toStepSS x.2))).1 1).1.2.1,(mg_laws_markEngine (v_impl_NewEngine ((v_laws_toKeymap x.1),(v_laws_toStepSS x.2))).1 1).1.2.2.1,(v_impl_NewEngine ((v_laws_toKeymap x.1),(v_laws_toStepSS x.2))).1.2.2.2.1,(mg_laws_markEngine (v_impl_NewEngine ((v_laws_toKeymap x.1),(v_laws_toStepSS x.2))).1 1).1.2.2.2.2.1,(v_impl_NewEngine ((v_laws_toKeymap x.1),(v_laws_toStepSS x.2))).1.2.2.2.2.2),1)) (mg_laws_markEngine (v_impl_NewEngine ((v_laws_toKeymap x.1),(v_laws_toStepSS x.2))).1 1).2)))))))))))):=(vu_laws_FnExactNewEngine x).trans (by kernel_rfl)
theorem oe_laws_FnExactNewEngine (x):ok_laws_FnExactNewEngine x=((ok_laws_szKeymap (x.1,1048576))∧(((iLt (v_laws_szKeymap (x.1,1048576)) 0)=true→True)∧((iLt (v_laws_szKeymap (x.1,1048576)) 0)=false→((ok_laws_szStepSS (x.2,(v_laws_szKeymap (x.1,1048576))))∧(((iLt (v_laws_szStepSS (x.2,(v_laws_szKeymap (x.1,1048576)))) 0)=true→True)∧((iLt (v_laws_szStepSS (x.2,(v_laws_szKeymap (x.1,1048576)))) 0)=false→((ok_laws_toKeymap x.1)∧((ok_laws_toStepSS x.2)∧((ok_spec_NewEngine ((v_laws_toKeymap x.1),(v_laws_toStepSS x.2)))∧((ok_laws_toKeymap x.1)∧((ok_laws_toStepSS x.2)∧((ok_impl_NewEngine ((v_laws_toKeymap x.1),(v_laws_toStepSS x.2)))∧((ok_laws_eqEngine ((v_impl_NewEngine ((v_laws_toKeymap x.1),(v_laws_toStepSS x.2))).1,(v_spec_NewEngine ((v_laws_toKeymap x.1),(v_laws_toStepSS x.2))).1))∧(((bOr (bNot (v_laws_eqEngine ((v_impl_NewEngine ((v_laws_toKeymap x.1),(v_laws_toStepSS x.2))).1,(v_spec_NewEngine ((v_laws_toKeymap x.1),(v_laws_toStepSS x.2))).1))) (bNot (bIff (v_impl_NewEngine ((v_laws_toKeymap x.1),(v_laws_toStepSS x.2))).2 (v_spec_NewEngine ((v_laws_toKeymap x.1),(v_laws_toStepSS x.2))).2)))=true→True)∧((bOr (bNot (v_laws_eqEngine ((v_impl_NewEngine ((v_laws_toKeymap x.1),(v_laws_toStepSS x.2))).1,(v_spec_NewEngine ((v_laws_toKeymap x.1),(v_laws_toStepSS x.2))).1))) (bNot (bIff (v_impl_NewEngine ((v_laws_toKeymap x.1),(v_laws_toStepSS x.2))).2 (v_spec_NewEngine ((v_laws_toKeymap x.1),(v_laws_toStepSS x.2))).2)))=false→((ok_laws_toKeymap x.1)∧((ok_laws_eqKeymap ((v_laws_toKeymap x.1),(v_laws_toKeymap x.1)))∧(((bNot (v_laws_eqKeymap ((v_laws_toKeymap x.1),(v_laws_toKeymap x.1))))=true→True)∧((bNot (v_laws_eqKeymap ((v_laws_toKeymap x.1),(v_laws_toKeymap x.1))))=false→((ok_laws_toStepSS x.2)∧((ok_laws_eqStepSS ((v_laws_toStepSS x.2),(v_laws_toStepSS x.2)))∧(((bNot (v_laws_eqStepSS ((v_laws_toStepSS x.2),(v_laws_toStepSS x.2))))=true→True)∧((bNot (v_laws_eqStepSS ((v_laws_toStepSS x.2),(v_laws_toStepSS x.2))))=false→((((List.length (v_laws_toKeymap x.1).2)=(List.length (v_laws_toKeymap x.1).2))∧(DMk.ok (DMk.mk (RT.cons (CT.int IntKind.i64) (RT.one (CT.sl (RT.one (CT.sl (RT.cons (CT.int IntKind.i64) (RT.cons (CT.int IntKind.i64) (RT.cons (CT.int IntKind.i64) (RT.one (CT.int IntKind.i64)))))))))) true mok_laws_markKeymap mg_laws_markKeymap) (v_laws_toKeymap x.1)))∧((((List.length (v_laws_toStepSS x.2))=(List.length (v_laws_toStepSS x.2)))∧(DMk.ok (DMk.mk (RT.one (CT.sl (RT.one (CT.sl (RT.cons (CT.int IntKind.i64) (RT.cons (CT.int IntKind.i64) (RT.one (CT.int IntKind.i64)))))))) false mok_laws_markStepSS mg_laws_markStepSS) (v_laws_toStepSS x.2)))∧((((iLt (mg_laws_markStepSS (v_laws_toStepSS x.2) (mg_laws_markKeymap (v_laws_toKeymap x.1) 1).2).2 0)=true→True)∧((iLt (mg_laws_markStepSS (v_laws_toStepSS x.2) (mg_laws_markKeymap (v_laws_toKeymap x.1) 1).2).2 0)=false→(ok_laws_eqEngine ((v_impl_NewEngine ((v_laws_toKeymap x.1),(v_laws_toStepSS x.2))).1,(v_spec_NewEngine ((v_laws_toKeymap x.1),(v_laws_toStepSS x.2))).1))))∧(((bOr (iLt (mg_laws_markStepSS (v_laws_toStepSS x.2) (mg_laws_markKeymap (v_laws_toKeymap x.1) 1).2).2 0) (bOr (bNot (v_laws_eqEngine ((v_impl_NewEngine ((v_laws_toKeymap x.1),(v_laws_toStepSS x.2))).1,(v_spec_NewEngine ((v_laws_toKeymap x.1),(v_laws_toStepSS x.2))).1))) (bNot (bIff (v_impl_NewEngine ((v_laws_toKeymap x.1),(v_laws_toStepSS x.2))).2 (v_spec_NewEngine ((v_laws_toKeymap x.1),(v_laws_toStepSS x.2))).2))))=true→True)∧((bOr (iLt (mg_laws_markStepSS (v_laws_toStepSS x.2) (mg_laws_markKeymap (v_laws_toKeymap x.1) 1).2).2 0) (bOr (bNot (v_laws_eqEngine ((v_impl_NewEngine ((v_laws_toKeymap x.1),(v_laws_toStepSS x.2))).1,(v_spec_NewEngine ((v_laws_toKeymap x.1),(v_laws_toStepSS x.2))).1))) (bNot (bIff (v_impl_NewEngine ((v_laws_toKeymap x.1),(v_laws_toStepSS x.2))).2 (v_spec_NewEngine ((v_laws_toKeymap x.1),(v_laws_toStepSS x.2))).2))))=false→(((((List.length (v_impl_NewEngine ((v_laws_toKeymap x.1),(v_laws_toStepSS x.2))).1.2.1)=(List.length (v_impl_NewEngine ((v_laws_toKeymap x.1),(v_laws_toStepSS x.2))).1.2.1))∧(((List.length (v_impl_NewEngine ((v_laws_toKeymap x.1),(v_laws_toStepSS x.2))).1.2.2.1)=(List.length (v_impl_NewEngine ((v_laws_toKeymap x.1),(v_laws_toStepSS x.2))).1.2.2.1))∧((List.length (v_impl_NewEngine ((v_laws_toKeymap x.1),(v_laws_toStepSS x.2))).1.2.2.2.2.1)=(List.length (v_impl_NewEngine ((v_laws_toKeymap x.1),(v_laws_toStepSS x.2))).1.2.2.2.2.1))))∧(DMk.ok (DMk.mk (RT.cons (CT.int IntKind.i64) (RT.cons (CT.sl (RT.one (CT.sl (RT.cons (CT.int IntKind.i64) (RT.cons (CT.int IntKind.i64) (RT.cons (CT.int IntKind.i64) (RT.one (CT.int IntKind.i64)))))))) (RT.cons (CT.sl (RT.one (CT.sl (RT.cons (CT.int IntKind.i64) (RT.cons (CT.int IntKind.i64) (RT.one (CT.int IntKind.i64))))))) (RT.cons (CT.int IntKind.i64) (RT.cons (CT.sl (RT.cons (CT.int IntKind.i64) (RT.cons (CT.int IntKind.i64) (RT.cons (CT.int IntKind.i64) (RT.cons (CT.int IntKind.i64) (RT.one (CT.int IntKind.i64))))))) (RT.cons (CT.int IntKind.i64) (RT.one CT.bool))))))) true mok_laws_markEngine mg_laws_markEngine) (v_impl_NewEngine ((v_laws_toKeymap x.1),(v_laws_toStepSS x.2))).1))∧((ok_laws_heldEngine (((v_impl_NewEngine ((v_laws_toKeymap x.1),(v_laws_toStepSS x.2))).1.1,(mg_laws_markEngine (v_impl_NewEngine ((v_laws_toKeymap x.1),(v_laws_toStepSS x.2))).1 1).1.2.1,(mg_laws_markEngine (v_impl_NewEngine ((v_laws_toKeymap x.1),(v_laws_toStepSS x.2))).1 1).1.2.2.1,(v_impl_NewEngine ((v_laws_toKeymap x.1),(v_laws_toStepSS x.2))).1.2.2.2.1,(mg_laws_markEngine (v_impl_NewEngine ((v_laws_toKeymap x.1),(v_laws_toStepSS x.2))).1 1).1.2.2.2.2.1,(v_impl_NewEngine ((v_laws_toKeymap x.1),(v_laws_toStepSS x.2))).1.2.2.2.2.2),1))∧(((iLt (v_laws_heldEngine (((v_impl_NewEngine ((v_laws_toKeymap x.1),(v_laws_toStepSS x.2))).1.1,(mg_laws_markEngine (v_impl_NewEngine ((v_laws_toKeymap x.1),(v_laws_toStepSS x.2))).1 1).1.2.1,(mg_laws_markEngine (v_impl_NewEngine ((v_laws_toKeymap x.1),(v_laws_toStepSS x.2))).1 1).1.2.2.1,(v_impl_NewEngine ((v_laws_toKeymap x.1),(v_laws_toStepSS x.2))).1.2.2.2.1,(mg_laws_markEngine (v_impl_NewEngine ((v_laws_toKeymap x.1),(v_laws_toStepSS x.2))).1 1).1.2.2.2.2.1,(v_impl_NewEngine ((v_laws_toKeymap x.1),(v_laws_toStepSS x.2))).1.2.2.2.2.2),1)) 0)=true→True)∧((iLt (v_laws_heldEngine (((v_impl_NewEngine ((v_laws_toKeymap x.1),(v_laws_toStepSS x.2))).1.1,(mg_laws_markEngine (v_impl_NewEngine ((v_laws_toKeymap x.1),(v_laws_toStepSS x.2))).1 1).1.2.1,(mg_laws_markEngine (v_impl_NewEngine ((v_laws_toKeymap x.1),(v_laws_toStepSS x.2))).1 1).1.2.2.1,(v_impl_NewEngine ((v_laws_toKeymap x.1),(v_laws_toStepSS x.2))).1.2.2.2.1,(mg_laws_markEngine (v_impl_NewEngine ((v_laws_toKeymap x.1),(v_laws_toStepSS x.2))).1 1).1.2.2.2.2.1,(v_impl_NewEngine ((v_laws_toKeymap x.1),(v_laws_toStepSS x.2))).1.2.2.2.2.2),1)) 0)=false→(((iNe (v_laws_heldEngine (((v_impl_NewEngine ((v_laws_toKeymap x.1),(v_laws_toStepSS x.2))).1.1,(mg_laws_markEngine (v_impl_NewEngine ((v_laws_toKeymap x.1),(v_laws_toStepSS x.2))).1 1).1.2.1,(mg_laws_markEngine (v_impl_NewEngine ((v_laws_toKeymap x.1),(v_laws_toStepSS x.2))).1 1).1.2.2.1,(v_impl_NewEngine ((v_laws_toKeymap x.1),(v_laws_toStepSS x.2))).1.2.2.2.1,(mg_laws_markEngine (v_impl_NewEngine ((v_laws_toKeymap x.1),(v_laws_toStepSS x.2))).1 1).1.2.2.2.2.1,(v_impl_NewEngine ((v_laws_toKeymap x.1),(v_laws_toStepSS x.2))).1.2.2.2.2.2),1)) (mg_laws_markEngine (v_impl_NewEngine ((v_laws_toKeymap x.1),(v_laws_toStepSS x.2))).1 1).2)=true→True)∧((iNe (v_laws_heldEngine (((v_impl_NewEngine ((v_laws_toKeymap x.1),(v_laws_toStepSS x.2))).1.1,(mg_laws_markEngine (v_impl_NewEngine ((v_laws_toKeymap x.1),(v_laws_toStepSS x.2))).1 1).1.2.1,(mg_laws_markEngine (v_impl_NewEngine ((v_laws_toKeymap x.1),(v_laws_toStepSS x.2))).1 1).1.2.2.1,(v_impl_NewEngine ((v_laws_toKeymap x.1),(v_laws_toStepSS x.2))).1.2.2.2.1,(mg_laws_markEngine (v_impl_NewEngine ((v_laws_toKeymap x.1),(v_laws_toStepSS x.2))).1 1).1.2.2.2.2.1,(v_impl_NewEngine ((v_laws_toKeymap x.1),(v_laws_toStepSS x.2))).1.2.2.2.2.2),1)) (mg_laws_markEngine (v_impl_NewEngine ((v_laws_toKeymap x.1),(v_laws_toStepSS x.2))).1 1).2)=false→((ok_laws_toKeymap x.1)∧((ok_laws_toStepSS x.2)∧((ok_impl_NewEngine ((v_laws_toKeymap x.1),(v_laws_toStepSS x.2)))∧((ok_laws_eqEngine ((v_impl_NewEngine ((v_laws_toKeymap x.1),(v_laws_toStepSS x.2))).1,(v_spec_NewEngine ((v_laws_toKeymap x.1),(v_laws_toStepSS x.2))).1))∧(((bOr (bNot (v_laws_eqEngine ((v_impl_NewEngine ((v_laws_toKeymap x.1),(v_laws_toStepSS x.2))).1,(v_spec_NewEngine ((v_laws_toKeymap x.1),(v_laws_toStepSS x.2))).1))) (bNot (bIff (v_impl_NewEngine ((v_laws_toKeymap x.1),(v_laws_toStepSS x.2))).2 (v_spec_NewEngine ((v_laws_toKeymap x.1),(v_laws_toStepSS x.2))).2)))=true→True)∧((bOr (bNot (v_laws_eqEngine ((v_impl_NewEngine ((v_laws_toKeymap x.1),(v_laws_toStepSS x.2))).1,(v_spec_NewEngine ((v_laws_toKeymap x.1),(v_laws_toStepSS x.2))).1))) (bNot (bIff (v_impl_NewEngine ((v_laws_toKeymap x.1),(v_laws_toStepSS x.2))).2 (v_spec_NewEngine ((v_laws_toKeymap x.1),(v_laws_toStepSS x.2))).2)))=false→(ok_laws_heldEngine (((v_impl_NewEngine ((v_laws_toKeymap x.1),(v_laws_toStepSS x.2))).1.1,(mg_laws_markEngine (v_impl_NewEngine ((v_laws_toKeymap x.1),(v_laws_toStepSS x.2))).1 1).1.2.1,(mg_laws_markEngine (v_impl_NewEngine ((v_laws_toKeymap x.1),(v_laws_toStepSS x.2))).1 1).1.2.2.1,(v_impl_NewEngine ((v_laws_toKeymap x.1),(v_laws_toStepSS x.2))).1.2.2.2.1,(mg_laws_markEngine (v_impl_NewEngine ((v_laws_toKeymap x.1),(v_laws_toStepSS x.2))).1 1).1.2.2.2.2.1,(v_impl_NewEngine ((v_laws_toKeymap x.1),(v_laws_toStepSS x.2))).1.2.2.2.2.2),1)))))))))))))))))))))))))))))))))))))))))):=(ou_laws_FnExactNewEngine x).trans (by kernel_rfl)
end
section
set_option maxRecDepth 20000
def mi_StepS(a:Int×Int×Int)(k:Int):(Int×Int×Int)×Int:=((k,(IntKind.i64.wrap (k+1)),(IntKind.i64.wrap ((IntKind.i64.wrap (k+1))+1))),(IntKind.i64.wrap ((IntKind.i64.wrap ((IntKind.i64.wrap (k+1))+1))+1)))
theorem mh_StepS(x:List (Int×Int×Int))(h:sm_StepS x)(m:Int)(h0:0≤m)(h1:m+3145728≤2305843009213693952):mok_laws_markStepS x∧(m≤(mg_laws_markStepS x m).2∧(mg_laws_markStepS x m).2≤m+3145728)∧ok_laws_heldStepS ((mg_laws_markStepS x m).1,m)∧v_laws_heldStepS ((mg_laws_markStepS x m).1,m)=(mg_laws_markStepS x m).2:=by
 have hl:x.length≤1048576:=h.1
 have hU:UpF mi_StepS x 3:=by
  intro a ha k k0 k1
  have e0:IntKind.i64.wrap (k+1)=k+1:=wrapP (by omega) (by omega)
  have e1:IntKind.i64.wrap ((k+1)+1)=(k+1)+1:=wrapP (by omega) (by omega)
  have e2:IntKind.i64.wrap (((k+1)+1)+1)=((k+1)+1)+1:=wrapP (by omega) (by omega)
  have ee:(mi_StepS a k).2=(((k+1)+1)+1):=by simp only[mi_StepS,e0,e1,e2]
  rw[ee]
  omega
 have hB:x.length*3≤3145728:=mul_lim hl (by decide)
 have up:=mkL_up (m:=m) hU h0 (by omega)
 have hmg:mg_laws_markStepS x m=mkL mi_StepS x m:=by unfold mi_StepS;rw[mgu_laws_markStepS];rfl
 rw[hmg]
 have hL:=mkL_len mi_StepS x m
 have hg:∀ i,i<x.length→(mkL mi_StepS x m).1.getD i (0,0,0)=(mi_StepS (x.getD i (0,0,0)) (mkPre mi_StepS x m i).2).1:=fun i hi=>mkL_getD _ _ _ hi _
 have hok:mok_laws_markStepS x:=by rw[mou_laws_markStepS];exact⟨Nat.le_trans h.1 (by decide),fun a ha=>⟨trivial,trivial,trivial⟩⟩
 rw[oe_laws_heldStepS,ve_laws_heldStepS]
 dsimp only
 generalize (mkL mi_StepS x m).1=L at hL hg ⊢
 have key:LoopOk (fun(x0:(Int×Int))=>(bAnd (iLt x0.2 (lLen L)) (bAnd (bNot (iNe (lGet L (iNat x0.2) (0,0,0)).1 x0.1)) (bAnd (bNot (iNe (lGet L (iNat x0.2) (0,0,0)).2.1 (iAdd .i64 x0.1 1))) (bNot (iNe (lGet L (iNat x0.2) (0,0,0)).2.2 (iAdd .i64 (iAdd .i64 x0.1 1) 1))))))) (fun(x0:(Int×Int))=>((iAdd .i64 (iAdd .i64 (iAdd .i64 x0.1 1) 1) 1),(iAdd .i64 x0.2 1))) (fun(x0:(Int×Int))=>(((iLt x0.2 (lLen L))=true→((((0:Int)≤x0.2)∧(x0.2<(((List.length L):Int))))∧(((iNat x0.2)<(List.length L))∧(((iNe (lGet L (iNat x0.2) (0,0,0)).1 x0.1)=true→True)∧((iNe (lGet L (iNat x0.2) (0,0,0)).1 x0.1)=false→((((0:Int)≤x0.2)∧(x0.2<(((List.length L):Int))))∧(((iNat x0.2)<(List.length L))∧(((iNe (lGet L (iNat x0.2) (0,0,0)).2.1 (iAdd .i64 x0.1 1))=true→True)∧((iNe (lGet L (iNat x0.2) (0,0,0)).2.1 (iAdd .i64 x0.1 1))=false→((((0:Int)≤x0.2)∧(x0.2<(((List.length L):Int))))∧((iNat x0.2)<(List.length L))))))))))))∧((iLt x0.2 (lLen L))=false→True))) (m,0)∧loopV (fun(x0:(Int×Int))=>(bAnd (iLt x0.2 (lLen L)) (bAnd (bNot (iNe (lGet L (iNat x0.2) (0,0,0)).1 x0.1)) (bAnd (bNot (iNe (lGet L (iNat x0.2) (0,0,0)).2.1 (iAdd .i64 x0.1 1))) (bNot (iNe (lGet L (iNat x0.2) (0,0,0)).2.2 (iAdd .i64 (iAdd .i64 x0.1 1) 1))))))) (fun(x0:(Int×Int))=>((iAdd .i64 (iAdd .i64 (iAdd .i64 x0.1 1) 1) 1),(iAdd .i64 x0.2 1))) (m,0)=((mkL mi_StepS x m).2,(x.length:Int)):=by
  refine held_loop hl (0,0,0) (fun i hi=>?_) ?_
  · obtain⟨b1,b2⟩:=mkPre_up (m:=m) hU h0 (by omega) (0,0,0) i (by omega)
    have bm:i*3+3≤x.length*3:=mul_step hi
    have g:=hg i hi
    have hlt:(i:Int)<(L.length:Int):=by omega
    have hlN:i<L.length:=by omega
    have ha:=getD_mem x i (0,0,0) hi
    generalize (mkPre mi_StepS x m i).2=k at b1 b2 g ⊢
    generalize x.getD i (0,0,0)=a at g ha ⊢
    have e0:IntKind.i64.wrap (k+1)=k+1:=wrapP (by omega) (by omega)
    have e1:IntKind.i64.wrap ((k+1)+1)=(k+1)+1:=wrapP (by omega) (by omega)
    have e2:IntKind.i64.wrap (((k+1)+1)+1)=((k+1)+1)+1:=wrapP (by omega) (by omega)
    simp only[lGet_eq,iNat_eq,lLen_eq,Int.toNat_natCast,iAdd_def,iConv_def,iNe_eq,iLt_eq,iEq_eq,iRem_def,bAnd_eq,bNot_eq,bIff_eq,g,mi_StepS,e0,e1,e2]
    simp[hlt,hlN]
  · simp[iLt_eq,lLen_eq,hL,bAnd_eq]
 refine⟨hok,⟨up.1,by omega⟩,key.1,?_⟩
 simp only[key.2]
 simp[bSel_eq,iLt_eq,lLen_eq,hL]
noncomputable def mi_StepSS(a:List (Int×Int×Int))(k:Int):(List (Int×Int×Int))×Int:=((mg_laws_markStepS a k).1,(mg_laws_markStepS a k).2)
theorem mh_StepSS(x:List (List (Int×Int×Int)))(h:sm_StepSS x)(m:Int)(h0:0≤m)(h1:m+3298534883328≤2305843009213693952):mok_laws_markStepSS x∧(m≤(mg_laws_markStepSS x m).2∧(mg_laws_markStepSS x m).2≤m+3298534883328)∧ok_laws_heldStepSS ((mg_laws_markStepSS x m).1,m)∧v_laws_heldStepSS ((mg_laws_markStepSS x m).1,m)=(mg_laws_markStepSS x m).2:=by
 have hl:x.length≤1048576:=h.1
 have hU:UpF mi_StepSS x 3145728:=by
  intro a ha k k0 k1
  obtain⟨_,⟨p0,q0⟩,y0,z0⟩:=mh_StepS a (h.2 a ha) k (by omega) (by omega)
  have t0:¬ (mg_laws_markStepS a k).2<0:=by omega
  have ee:(mi_StepSS a k).2=(mg_laws_markStepS a k).2:=by simp only[mi_StepSS]
  rw[ee]
  omega
 have hB:x.length*3145728≤3298534883328:=mul_lim hl (by decide)
 have up:=mkL_up (m:=m) hU h0 (by omega)
 have hmg:mg_laws_markStepSS x m=mkL mi_StepSS x m:=by unfold mi_StepSS;rw[mgu_laws_markStepSS,mgu_laws_markStepS];rfl
 rw[hmg]
 have hL:=mkL_len mi_StepSS x m
 have hg:∀ i,i<x.length→(mkL mi_StepSS x m).1.getD i []=(mi_StepSS (x.getD i []) (mkPre mi_StepSS x m i).2).1:=fun i hi=>mkL_getD _ _ _ hi _
 have hok:mok_laws_markStepSS x:=by rw[mou_laws_markStepSS];exact⟨Nat.le_trans h.1 (by decide),fun a ha=>⟨Nat.le_trans (h.2 a ha).1 (by decide),fun a ha=>⟨trivial,trivial,trivial⟩⟩⟩
 rw[oe_laws_heldStepSS,ve_laws_heldStepSS]
 dsimp only
 generalize (mkL mi_StepSS x m).1=L at hL hg ⊢
 have key:LoopOk (fun(x0:(Int×Int))=>(bAnd (iLt x0.2 (lLen L)) (bNot (iLt (v_laws_heldStepS ((lGet L (iNat x0.2) []),x0.1)) 0)))) (fun(x0:(Int×Int))=>((v_laws_heldStepS ((lGet L (iNat x0.2) []),x0.1)),(iAdd .i64 x0.2 1))) (fun(x0:(Int×Int))=>(((iLt x0.2 (lLen L))=true→((((0:Int)≤x0.2)∧(x0.2<(((List.length L):Int))))∧(((iNat x0.2)<(List.length L))∧(ok_laws_heldStepS ((lGet L (iNat x0.2) []),x0.1)))))∧((iLt x0.2 (lLen L))=false→True))) (m,0)∧loopV (fun(x0:(Int×Int))=>(bAnd (iLt x0.2 (lLen L)) (bNot (iLt (v_laws_heldStepS ((lGet L (iNat x0.2) []),x0.1)) 0)))) (fun(x0:(Int×Int))=>((v_laws_heldStepS ((lGet L (iNat x0.2) []),x0.1)),(iAdd .i64 x0.2 1))) (m,0)=((mkL mi_StepSS x m).2,(x.length:Int)):=by
  refine held_loop hl [] (fun i hi=>?_) ?_
  · obtain⟨b1,b2⟩:=mkPre_up (m:=m) hU h0 (by omega) [] i (by omega)
    have bm:i*3145728+3145728≤x.length*3145728:=mul_step hi
    have g:=hg i hi
    have hlt:(i:Int)<(L.length:Int):=by omega
    have hlN:i<L.length:=by omega
    have ha:=getD_mem x i [] hi
    generalize (mkPre mi_StepSS x m i).2=k at b1 b2 g ⊢
    generalize x.getD i []=a at g ha ⊢
    obtain⟨_,⟨p0,q0⟩,y0,z0⟩:=mh_StepS a (h.2 a ha) k (by omega) (by omega)
    have t0:¬ (mg_laws_markStepS a k).2<0:=by omega
    simp only[lGet_eq,iNat_eq,lLen_eq,Int.toNat_natCast,iAdd_def,iConv_def,iNe_eq,iLt_eq,iEq_eq,iRem_def,bAnd_eq,bNot_eq,bIff_eq,g,mi_StepSS,y0,z0,t0]
    simp[hlt,hlN,y0,z0,t0]
  · simp[iLt_eq,lLen_eq,hL,bAnd_eq]
 refine⟨hok,⟨up.1,by omega⟩,key.1,?_⟩
 simp only[key.2]
 simp[bSel_eq,iLt_eq,lLen_eq,hL]
def mi_HeldS(a:Int×Int×Int×Int×Int)(k:Int):(Int×Int×Int×Int×Int)×Int:=((k,(IntKind.i64.wrap (k+1)),(IntKind.i64.wrap ((IntKind.i64.wrap (k+1))+1)),(IntKind.i64.wrap ((IntKind.i64.wrap ((IntKind.i64.wrap (k+1))+1))+1)),(IntKind.i64.wrap ((IntKind.i64.wrap ((IntKind.i64.wrap ((IntKind.i64.wrap (k+1))+1))+1))+1))),(IntKind.i64.wrap ((IntKind.i64.wrap ((IntKind.i64.wrap ((IntKind.i64.wrap ((IntKind.i64.wrap (k+1))+1))+1))+1))+1)))
theorem mh_HeldS(x:List (Int×Int×Int×Int×Int))(h:sm_HeldS x)(m:Int)(h0:0≤m)(h1:m+5242880≤2305843009213693952):mok_laws_markHeldS x∧(m≤(mg_laws_markHeldS x m).2∧(mg_laws_markHeldS x m).2≤m+5242880)∧ok_laws_heldHeldS ((mg_laws_markHeldS x m).1,m)∧v_laws_heldHeldS ((mg_laws_markHeldS x m).1,m)=(mg_laws_markHeldS x m).2:=by
 have hl:x.length≤1048576:=h.1
 have hU:UpF mi_HeldS x 5:=by
  intro a ha k k0 k1
  have e0:IntKind.i64.wrap (k+1)=k+1:=wrapP (by omega) (by omega)
  have e1:IntKind.i64.wrap ((k+1)+1)=(k+1)+1:=wrapP (by omega) (by omega)
  have e2:IntKind.i64.wrap (((k+1)+1)+1)=((k+1)+1)+1:=wrapP (by omega) (by omega)
  have e3:IntKind.i64.wrap ((((k+1)+1)+1)+1)=(((k+1)+1)+1)+1:=wrapP (by omega) (by omega)
  have e4:IntKind.i64.wrap (((((k+1)+1)+1)+1)+1)=((((k+1)+1)+1)+1)+1:=wrapP (by omega) (by omega)
  have ee:(mi_HeldS a k).2=(((((k+1)+1)+1)+1)+1):=by simp only[mi_HeldS,e0,e1,e2,e3,e4]
  rw[ee]
  omega
 have hB:x.length*5≤5242880:=mul_lim hl (by decide)
 have up:=mkL_up (m:=m) hU h0 (by omega)
 have hmg:mg_laws_markHeldS x m=mkL mi_HeldS x m:=by unfold mi_HeldS;rw[mgu_laws_markHeldS];rfl
 rw[hmg]
 have hL:=mkL_len mi_HeldS x m
 have hg:∀ i,i<x.length→(mkL mi_HeldS x m).1.getD i (0,0,0,0,0)=(mi_HeldS (x.getD i (0,0,0,0,0)) (mkPre mi_HeldS x m i).2).1:=fun i hi=>mkL_getD _ _ _ hi _
 have hok:mok_laws_markHeldS x:=by rw[mou_laws_markHeldS];exact⟨Nat.le_trans h.1 (by decide),fun a ha=>⟨trivial,trivial,trivial,trivial,trivial⟩⟩
 rw[oe_laws_heldHeldS,ve_laws_heldHeldS]
 dsimp only
 generalize (mkL mi_HeldS x m).1=L at hL hg ⊢
 have key:LoopOk (fun(x0:(Int×Int))=>(bAnd (iLt x0.2 (lLen L)) (bAnd (bNot (iNe (lGet L (iNat x0.2) (0,0,0,0,0)).1 x0.1)) (bAnd (bNot (iNe (lGet L (iNat x0.2) (0,0,0,0,0)).2.1 (iAdd .i64 x0.1 1))) (bAnd (bNot (iNe (lGet L (iNat x0.2) (0,0,0,0,0)).2.2.1 (iAdd .i64 (iAdd .i64 x0.1 1) 1))) (bAnd (bNot (iNe (lGet L (iNat x0.2) (0,0,0,0,0)).2.2.2.1 (iAdd .i64 (iAdd .i64 (iAdd .i64 x0.1 1) 1) 1))) (bNot (iNe (lGet L (iNat x0.2) (0,0,0,0,0)).2.2.2.2 (iAdd .i64 (iAdd .i64 (iAdd .i64 (iAdd .i64 x0.1 1) 1) 1) 1))))))))) (fun(x0:(Int×Int))=>((iAdd .i64 (iAdd .i64 (iAdd .i64 (iAdd .i64 (iAdd .i64 x0.1 1) 1) 1) 1) 1),(iAdd .i64 x0.2 1))) (fun(x0:(Int×Int))=>(((iLt x0.2 (lLen L))=true→((((0:Int)≤x0.2)∧(x0.2<(((List.length L):Int))))∧(((iNat x0.2)<(List.length L))∧(((iNe (lGet L (iNat x0.2) (0,0,0,0,0)).1 x0.1)=true→True)∧((iNe (lGet L (iNat x0.2) (0,0,0,0,0)).1 x0.1)=false→((((0:Int)≤x0.2)∧(x0.2<(((List.length L):Int))))∧(((iNat x0.2)<(List.length L))∧(((iNe (lGet L (iNat x0.2) (0,0,0,0,0)).2.1 (iAdd .i64 x0.1 1))=true→True)∧((iNe (lGet L (iNat x0.2) (0,0,0,0,0)).2.1 (iAdd .i64 x0.1 1))=false→((((0:Int)≤x0.2)∧(x0.2<(((List.length L):Int))))∧(((iNat x0.2)<(List.length L))∧(((iNe (lGet L (iNat x0.2) (0,0,0,0,0)).2.2.1 (iAdd .i64 (iAdd .i64 x0.1 1) 1))=true→True)∧((iNe (lGet L (iNat x0.2) (0,0,0,0,0)).2.2.1 (iAdd .i64 (iAdd .i64 x0.1 1) 1))=false→((((0:Int)≤x0.2)∧(x0.2<(((List.length L):Int))))∧(((iNat x0.2)<(List.length L))∧(((iNe (lGet L (iNat x0.2) (0,0,0,0,0)).2.2.2.1 (iAdd .i64 (iAdd .i64 (iAdd .i64 x0.1 1) 1) 1))=true→True)∧((iNe (lGet L (iNat x0.2) (0,0,0,0,0)).2.2.2.1 (iAdd .i64 (iAdd .i64 (iAdd .i64 x0.1 1) 1) 1))=false→((((0:Int)≤x0.2)∧(x0.2<(((List.length L):Int))))∧((iNat x0.2)<(List.length L))))))))))))))))))))∧((iLt x0.2 (lLen L))=false→True))) (m,0)∧loopV (fun(x0:(Int×Int))=>(bAnd (iLt x0.2 (lLen L)) (bAnd (bNot (iNe (lGet L (iNat x0.2) (0,0,0,0,0)).1 x0.1)) (bAnd (bNot (iNe (lGet L (iNat x0.2) (0,0,0,0,0)).2.1 (iAdd .i64 x0.1 1))) (bAnd (bNot (iNe (lGet L (iNat x0.2) (0,0,0,0,0)).2.2.1 (iAdd .i64 (iAdd .i64 x0.1 1) 1))) (bAnd (bNot (iNe (lGet L (iNat x0.2) (0,0,0,0,0)).2.2.2.1 (iAdd .i64 (iAdd .i64 (iAdd .i64 x0.1 1) 1) 1))) (bNot (iNe (lGet L (iNat x0.2) (0,0,0,0,0)).2.2.2.2 (iAdd .i64 (iAdd .i64 (iAdd .i64 (iAdd .i64 x0.1 1) 1) 1) 1))))))))) (fun(x0:(Int×Int))=>((iAdd .i64 (iAdd .i64 (iAdd .i64 (iAdd .i64 (iAdd .i64 x0.1 1) 1) 1) 1) 1),(iAdd .i64 x0.2 1))) (m,0)=((mkL mi_HeldS x m).2,(x.length:Int)):=by
  refine held_loop hl (0,0,0,0,0) (fun i hi=>?_) ?_
  · obtain⟨b1,b2⟩:=mkPre_up (m:=m) hU h0 (by omega) (0,0,0,0,0) i (by omega)
    have bm:i*5+5≤x.length*5:=mul_step hi
    have g:=hg i hi
    have hlt:(i:Int)<(L.length:Int):=by omega
    have hlN:i<L.length:=by omega
    have ha:=getD_mem x i (0,0,0,0,0) hi
    generalize (mkPre mi_HeldS x m i).2=k at b1 b2 g ⊢
    generalize x.getD i (0,0,0,0,0)=a at g ha ⊢
    have e0:IntKind.i64.wrap (k+1)=k+1:=wrapP (by omega) (by omega)
    have e1:IntKind.i64.wrap ((k+1)+1)=(k+1)+1:=wrapP (by omega) (by omega)
    have e2:IntKind.i64.wrap (((k+1)+1)+1)=((k+1)+1)+1:=wrapP (by omega) (by omega)
    have e3:IntKind.i64.wrap ((((k+1)+1)+1)+1)=(((k+1)+1)+1)+1:=wrapP (by omega) (by omega)
    have e4:IntKind.i64.wrap (((((k+1)+1)+1)+1)+1)=((((k+1)+1)+1)+1)+1:=wrapP (by omega) (by omega)
    simp only[lGet_eq,iNat_eq,lLen_eq,Int.toNat_natCast,iAdd_def,iConv_def,iNe_eq,iLt_eq,iEq_eq,iRem_def,bAnd_eq,bNot_eq,bIff_eq,g,mi_HeldS,e0,e1,e2,e3,e4]
    simp[hlt,hlN]
  · simp[iLt_eq,lLen_eq,hL,bAnd_eq]
 refine⟨hok,⟨up.1,by omega⟩,key.1,?_⟩
 simp only[key.2]
 simp[bSel_eq,iLt_eq,lLen_eq,hL]
theorem mh_Engine(x:Int×(List (List (Int×Int×Int×Int)))×(List (List (Int×Int×Int)))×Int×(List (Int×Int×Int×Int×Int))×Int×Bool)(h:sm_Engine x)(m:Int)(h0:0≤m)(h1:m+7696586637312≤2305843009213693952):mok_laws_markEngine x∧(m≤(mg_laws_markEngine x m).2∧(mg_laws_markEngine x m).2≤m+7696586637312)∧ok_laws_heldEngine ((x.1,(mg_laws_markEngine x m).1.2.1,(mg_laws_markEngine x m).1.2.2.1,x.2.2.2.1,(mg_laws_markEngine x m).1.2.2.2.2.1,x.2.2.2.2.2),m)∧v_laws_heldEngine ((x.1,(mg_laws_markEngine x m).1.2.1,(mg_laws_markEngine x m).1.2.2.1,x.2.2.2.1,(mg_laws_markEngine x m).1.2.2.2.2.1,x.2.2.2.2.2),m)=(mg_laws_markEngine x m).2:=by
 unfold sm_Engine at h
 obtain⟨k0,⟨p0,q0⟩,y0,z0⟩:=mh_Keymap (x.1,x.2.1) h.1 m (by omega) (by omega)
 have t0:¬ (mg_laws_markKeymap (x.1,x.2.1) m).2<0:=by omega
 obtain⟨k1,⟨p1,q1⟩,y1,z1⟩:=mh_StepSS x.2.2.1 h.2.1 (mg_laws_markKeymap (x.1,x.2.1) m).2 (by omega) (by omega)
 have t1:¬ (mg_laws_markStepSS x.2.2.1 (mg_laws_markKeymap (x.1,x.2.1) m).2).2<0:=by omega
 obtain⟨k2,⟨p2,q2⟩,y2,z2⟩:=mh_HeldS x.2.2.2.2.1 h.2.2.1 (mg_laws_markStepSS x.2.2.1 (mg_laws_markKeymap (x.1,x.2.1) m).2).2 (by omega) (by omega)
 have t2:¬ (mg_laws_markHeldS x.2.2.2.2.1 (mg_laws_markStepSS x.2.2.1 (mg_laws_markKeymap (x.1,x.2.1) m).2).2).2<0:=by omega
 have e:mg_laws_markEngine x m=((x.1,(mg_laws_markKeymap (x.1,x.2.1) m).1.2,(mg_laws_markStepSS x.2.2.1 (mg_laws_markKeymap (x.1,x.2.1) m).2).1,x.2.2.2.1,(mg_laws_markHeldS x.2.2.2.2.1 (mg_laws_markStepSS x.2.2.1 (mg_laws_markKeymap (x.1,x.2.1) m).2).2).1,x.2.2.2.2.2.1,x.2.2.2.2.2.2),(mg_laws_markHeldS x.2.2.2.2.1 (mg_laws_markStepSS x.2.2.1 (mg_laws_markKeymap (x.1,x.2.1) m).2).2).2):=by rw[mgu_laws_markEngine,mgu_laws_markHeldS,mgu_laws_markKeymap,mgu_laws_markStepSS];rfl
 have hok:mok_laws_markEngine x:=by rw[mou_laws_markEngine];exact⟨trivial,⟨Nat.le_trans h.1.1.1 (by decide),fun a ha=>⟨Nat.le_trans (h.1.1.2 a ha).1 (by decide),fun a ha=>⟨trivial,trivial,trivial,trivial⟩⟩⟩,⟨Nat.le_trans h.2.1.1 (by decide),fun a ha=>⟨Nat.le_trans (h.2.1.2 a ha).1 (by decide),fun a ha=>⟨trivial,trivial,trivial⟩⟩⟩,trivial,⟨Nat.le_trans h.2.2.1.1 (by decide),fun a ha=>⟨trivial,trivial,trivial,trivial,trivial⟩⟩,trivial,trivial⟩
 rw[e]
 refine⟨hok,⟨by simp only;omega,by simp only;omega⟩,?_,?_⟩
 · rw[oe_laws_heldEngine];simp[iLt_eq,bSel_eq,y0,z0,t0,y1,z1,t1,y2,z2,t2]
 · rw[ve_laws_heldEngine];simp[iLt_eq,bSel_eq,y0,z0,t0,y1,z1,t1,y2,z2,t2]
end
theorem loop_two {X Y:Type} {c:X→Bool} {f:X→X} {p:X→Prop} {d:Y→Bool} {g:Y→Y} {q:Y→Prop} (R:X→Y→Prop) (m:X→Nat)
 (h:∀ x y,R x y→p x∧q y∧c x=d y∧(c x=true→R (f x) (g y)∧m (f x)<m x)) {x0:X} {y0:Y} (h0:R x0 y0) :
 LoopOk c f p x0∧LoopOk d g q y0∧R (loopV c f x0) (loopV d g y0)∧c (loopV c f x0)=false:=by
 have go:∀ (n:Nat) (x:X) (y:Y),m x<n→R x y→∃ u v,LoopTo c f p x u∧LoopTo d g q y v∧R u v∧c u=false:=by
  intro n
  induction n with
  |zero=>intro x y hm;exact absurd hm (Nat.not_lt_zero _)
  | succ n ih=>
    intro x y hm hR
    obtain⟨h1,h2,h3,h4⟩:=h x y hR
    cases hc:c x with
    |false=>exact⟨x,y,.stop h1 hc,.stop h2 (by rw[← h3];exact hc),hR,hc⟩
    | true=>
      obtain⟨h5,h6⟩:=h4 hc
      obtain⟨u,v,a1,a2,a3,a4⟩:=ih _ _ (by omega) h5
      exact⟨u,v,.go h1 hc a1,.go h2 (by rw[← h3];exact hc) a2,a3,a4⟩
 obtain⟨u,v,a1,a2,a3,a4⟩:=go _ x0 y0 (Nat.lt_succ_self _) h0
 exact⟨⟨_,a1⟩,⟨_,a2⟩,by rw[a1.val,a2.val];exact a3,by rw[a1.val];exact a4⟩
theorem take_snoc{α:Type}(x:List α)(d:α){i:Nat}(h:i<x.length):x.take i++[x.getD i d]=x.take (i+1):=by
 rw[List.take_add_one,List.getD_eq_getElem?_getD,List.getElem?_eq_getElem h];rfl
theorem copy_app {α:Type} {c:Int×List α→Bool} {f:Int×List α→Int×List α} {p:Int×List α→Prop} (x:List α) (d:α) (hl:x.length≤1048576)
 (hc:∀ (i:Nat) (l:List α),c ((i:Int),l)=decide (i<x.length)) (hf:∀ (i:Nat) (l:List α),i<x.length→f ((i:Int),l)=(iAdd .i64 (i:Int) 1,l++[x.getD i d])) (hp:∀ (i:Nat) (l:List α),i≤x.length→l.length=i→p ((i:Int),l)) :
 LoopOk c f p (0,[])∧loopV c f (0,[])=((x.length:Int),x):=by
 have:=loop_for (c:=c) (f:=f) (p:=p) x.length (fun i=>((i:Int),x.take i)) (x0:=(0,[])) rfl (fun k hk=>by
  refine⟨hp k _ (by omega) (by rw[List.length_take];omega),by rw[hc];simpa using hk,?_⟩
  rw[hf k _ hk,iAdd_i64 (by unfold In64;omega),take_snoc x d hk]
  simp) ⟨hp _ _ (by omega) (by rw[List.length_take];omega),by rw[hc];simp⟩
 rw[List.take_length] at this
 exact this
theorem copy_app' {α:Type} {c:List α×Int→Bool} {f:List α×Int→List α×Int} {p:List α×Int→Prop} (x:List α) (d:α) (hl:x.length≤1048576)
 (hc:∀ (i:Nat) (l:List α),c (l,(i:Int))=decide (i<x.length)) (hf:∀ (i:Nat) (l:List α),i<x.length→f (l,(i:Int))=(l++[x.getD i d],iAdd .i64 (i:Int) 1)) (hp:∀ (i:Nat) (l:List α),i≤x.length→l.length=i→p (l,(i:Int))) :
 LoopOk c f p ([],0)∧loopV c f ([],0)=(x,(x.length:Int)):=by
 have:=loop_for (c:=c) (f:=f) (p:=p) x.length (fun i=>(x.take i,(i:Int))) (x0:=([],0)) rfl (fun k hk=>by
  refine⟨hp k _ (by omega) (by rw[List.length_take];omega),by rw[hc];simpa using hk,?_⟩
  rw[hf k _ hk,iAdd_i64 (by unfold In64;omega),take_snoc x d hk]
  simp) ⟨hp _ _ (by omega) (by rw[List.length_take];omega),by rw[hc];simp⟩
 rw[List.take_length] at this
 exact this
theorem shl_i64{a k:Nat}(hk:k≤64)(h:a*2^k<9223372036854775808):iShl .i64 (a:Int) (k:Int)=((a*2^k:Nat):Int):=by
 rw[iShl_u]
 show IntKind.i64.wrap ((a:Int)*2^min (k:Int).toNat 64)=_
 rw[Int.toNat_natCast,Nat.min_eq_left hk]
 have:((a:Int)*2^k)=((a*2^k:Nat):Int):=by norm_cast
 rw[this]
 exact wrap_i64 (by unfold In64;omega)
def Bytes(x:List Int):Prop:=∀ a∈x,0≤a∧a<256
theorem Bytes.get{x:List Int}(h:Bytes x)(i:Nat):∃ n:Nat,n<256∧x.getD i 0=(n:Int):=by
 by_cases hi:i<x.length
 · obtain⟨h0,h1⟩:=h _ (getD_mem x i 0 hi)
   exact⟨(x.getD i 0).toNat,by omega,by omega⟩
 · exact⟨0,by omega,by rw[List.getD_eq_getElem?_getD,List.getElem?_eq_none (by omega)];rfl⟩
theorem Bytes.of{x:List Int}(h:CT.wf (.sl (.one (.int .u8))) x):Bytes x:=by
 intro a ha
 have:=h.2 a ha
 simp only[RT.wf,CT.wf] at this
 have h:IntKind.u8.min≤a∧a≤IntKind.u8.max:=by simpa [Lit.wf] using this
 have e1:IntKind.u8.min=0:=by decide
 have e2:IntKind.u8.max=255:=by decide
 rw[e1,e2] at h
 omega
abbrev EngX:=Int×(List (List (Int×Int×Int×Int)))×(List (List (Int×Int×Int)))×Int×(List (Int×Int×Int×Int×Int))×Int×Bool
theorem scan_two{c c':Int→Bool}{f:Int→Int}{p q:Int→Prop}(n:Nat)(hn:n≤1048576)(hc:∀ i:Nat,i<n→c i=c' i)(hlt:∀ i:Nat,c i=true→i<n)(hlt':∀ i:Nat,c' i=true→i<n)(hf:∀ i,f i=iAdd .i64 i 1)(hp:∀ i:Nat,i≤n→p i∧q i) :
 LoopOk c f p 0∧LoopOk c' f q 0∧loopV c f 0=loopV c' f 0∧0≤loopV c f 0∧loopV c f 0≤n:=by
 obtain⟨b1,b2,⟨k,h1,h2,h3⟩,b4⟩:=loop_two (c:=c) (f:=f) (p:=p) (d:=c') (g:=f) (q:=q) (x0:=0) (y0:=0) (fun x y=>∃ k:Nat,k≤n∧x=k∧y=k) (fun x=>n-x.toNat) (by
  rintro x y ⟨k,hk,rfl,rfl⟩
  refine⟨(hp k hk).1,(hp k hk).2,?_,fun h=>?_⟩
  · by_cases hkn:k<n
    · exact hc k hkn
    · have e1:c (k:Int)=false:=by cases h:c (k:Int) with
       |false=>rfl
       |true=>exact absurd (hlt k h) hkn
      have e2:c' (k:Int)=false:=by cases h:c' (k:Int) with
       |false=>rfl
       |true=>exact absurd (hlt' k h) hkn
      rw[e1,e2]
  · have hkn:=hlt k h
    have e:f (k:Int)=((k+1:Nat):Int):=by rw[hf,iAdd_i64 (by unfold In64;omega)];omega
    exact⟨⟨k+1,hkn,e,e⟩,by rw[e];omega⟩) ⟨0,by omega,rfl,rfl⟩
 exact⟨b1,b2,by rw[h2,h3],by omega,by omega⟩
theorem isEngine_two(x:EngX)(hs:sm_Engine x):ok_spec_IsEngine x∧ok_impl_IsEngine x∧v_impl_IsEngine x=v_spec_IsEngine x:=by
 obtain⟨keys,layers,macros,fixed,held,once,caps⟩:=x
 have hk:sm_Keymap (keys,layers):=hs.1
 have hm:sm_StepSS macros:=hs.2.1
 have hh:sm_HeldS held:=hs.2.2.1
 obtain⟨a1,a2⟩:=ok_IsKeymap_t (keys,layers) hk
 have l1:=scan_two (c:=lc_spec_IsEngine_1 (keys,layers,macros,fixed,held,once,caps)) (c':=lc_impl_IsEngine_1 (keys,layers,macros,fixed,held,once,caps)) (f:=lf_spec_IsEngine_1) (p:=lp_spec_IsEngine_1 (keys,layers,macros,fixed,held,once,caps)) (q:=lp_impl_IsEngine_1 (keys,layers,macros,fixed,held,once,caps)) macros.length hm.1
  (fun i hi=>by
   simp only[lc_spec_IsEngine_1,lc_impl_IsEngine_1]
   rw[lGet_eq,iNat_eq,Int.toNat_natCast,isMacro_eq _ (hm.2 _ (getD_mem macros i [] hi)).1])
  (fun i h=>by simp only[lc_spec_IsEngine_1,bAnd_eq,Bool.and_eq_true,iLt_eq,lLen_eq,decide_eq_true_eq] at h;omega)
  (fun i h=>by simp only[lc_impl_IsEngine_1,bAnd_eq,Bool.and_eq_true,iLt_eq,lLen_eq,decide_eq_true_eq] at h;omega) (fun i=>rfl)
  (fun i hi=>by
   have k:(i:Int)<macros.length→ok_spec_IsMacro (lGet macros (iNat (i:Int)) [])∧ok_impl_IsMacro (lGet macros (iNat (i:Int)) []):=fun h=>by
    rw[lGet_eq,iNat_eq,Int.toNat_natCast]
    have:=(hm.2 _ (getD_mem macros i [] (by omega))).1
    exact⟨ok_specIsMacro _ this,ok_implIsMacro _ this⟩
   simp only[lp_spec_IsEngine_1,lp_impl_IsEngine_1,iLt_eq,lLen_eq,decide_eq_true_eq]
   refine⟨⟨fun h=>⟨⟨by omega,h⟩,by rw[iNat_eq];omega,(k h).1⟩,fun _=>trivial⟩,⟨fun h=>⟨⟨by omega,h⟩,by rw[iNat_eq];omega,(k h).2⟩,fun _=>trivial⟩⟩)
 have l2:=scan_two (c:=lc_spec_IsEngine_2 (keys,layers,macros,fixed,held,once,caps)) (c':=lc_impl_IsEngine_2 (keys,layers,macros,fixed,held,once,caps)) (f:=lf_spec_IsEngine_1) (p:=lp_spec_IsEngine_2 (keys,layers,macros,fixed,held,once,caps)) (q:=lp_impl_IsEngine_2 (keys,layers,macros,fixed,held,once,caps)) held.length hh.1
  (fun i hi=>rfl)
  (fun i h=>by simp only[lc_spec_IsEngine_2,bAnd_eq,Bool.and_eq_true,iLt_eq,lLen_eq,decide_eq_true_eq] at h;omega)
  (fun i h=>by simp only[lc_impl_IsEngine_2,bAnd_eq,Bool.and_eq_true,iLt_eq,lLen_eq,decide_eq_true_eq] at h;omega) (fun i=>rfl)
  (fun i hi=>by
   simp only[lp_spec_IsEngine_2,lp_impl_IsEngine_2,iLt_eq,lLen_eq,decide_eq_true_eq]
   have k:(i:Int)<held.length→iNat (i:Int)<held.length:=fun h=>by rw[iNat_eq];omega
   refine⟨⟨fun h=>⟨⟨by omega,h⟩,k h,fun _=>trivial,fun _=>⟨⟨by omega,h⟩,k h,fun _=>⟨⟨by omega,h⟩,k h⟩,fun _=>trivial⟩⟩,fun _=>trivial⟩,⟨fun h=>⟨⟨by omega,h⟩,k h⟩,fun _=>trivial⟩⟩)
 have ef:lf_impl_IsEngine_1=lf_spec_IsEngine_1:=rfl
 rw[oe_spec_IsEngine,oe_impl_IsEngine,ve_spec_IsEngine,ve_impl_IsEngine,ef]
 obtain⟨p1,p2,p3,_⟩:=l1
 obtain⟨q1,q2,q3,_⟩:=l2
 simp only[← p3,← q3,isKeymap_eq,isHeld_eq]
 have hl:(0:Int)≤lLen layers:=by rw[lLen_eq];omega
 refine⟨?_,?_,?_⟩
 · simp only[a1,ok_spec_IsHeld_t held hh.1,ok_l1In,p1,q1,hl]
   simp
 · simp only[a2,ok_impl_IsHeld_t held hh.1,p2,q2,hl]
   simp
 · cases hv:v_impl_IsKeymap (keys,layers) with
   |false=>simp[bOr_eq,bNot_eq,bAnd_eq]
   | true=>
     have hm:=isKeymap_ok hk hv
     have e1:iShl .i64 1 (lLen layers)=((2^layers.length:Nat):Int):=by
      have h2:2^layers.length≤2^4:=Nat.pow_le_pow_right (by omega) hm.l2
      rw[lLen_eq]
      have:=shl_i64 (a:=1) (k:=layers.length) (by have:=hm.l2;omega) (by omega)
      rw[Nat.one_mul] at this
      exact this
     have h2:2^layers.length≤2^4:=Nat.pow_le_pow_right (by omega) hm.l2
     generalize (2^layers.length:Nat)=M at e1 h2
     have e2:iSub .i64 (M:Int) 1=(M:Int)-1:=iSub_i64 (by unfold In64;omega)
     rw[e1,e2,l1In_eq,l1In_eq]
     generalize iLt (loopV _ _ _) (lLen macros)=A
     generalize iLt (loopV _ _ _) (lLen held)=B
     rw[Bool.eq_iff_iff]
     simp only[bOr_eq,bNot_eq,bAnd_eq,iGt_eq,iLt_eq,iGe_eq,iEq_eq,Bool.and_eq_true,Bool.or_eq_false_iff,Bool.not_eq_true',decide_eq_true_eq,decide_eq_false_iff_not,Bool.not_true]
     constructor
     · rintro⟨⟨_,h1,h3,h4,h5⟩,h6,h7,h8,h9,h10⟩
       exact⟨⟨trivial,h1,h3⟩,h6,h7,⟨h8,by omega⟩,h9,by omega,by omega⟩
     · rintro⟨⟨_,h1,h3⟩,h6,h7,⟨h8,h9⟩,h10,h11,h12⟩
       exact⟨⟨trivial,h1,h3,by omega,by omega⟩,h6,h7,h8,h10,by omega⟩
theorem l6Copy_id(k:Int)(x:List (List (Int×Int×Int×Int)))(hs:sm_Keymap (k,x)):ok_spec_l6Copy (k,x)∧v_spec_l6Copy (k,x)=(k,x):=by
 rw[oe_spec_l6Copy,ve_spec_l6Copy]
 obtain⟨a1,a2⟩:=copy_app (c:=lc_spec_l6Copy_1 (k,x)) (f:=lf_spec_l6Copy_1 (k,x)) (p:=lp_spec_l6Copy_1 (k,x)) x [] hs.1.1 (fun i l=>by simp[lc_spec_l6Copy_1,iLt_eq,lLen_eq])
  (fun i l _=>by simp[lf_spec_l6Copy_1,lApp_eq,lGet_eq,iNat_eq]) (fun i l hi hl=>by
   simp only[lp_spec_l6Copy_1,iLt_eq,lLen_eq,decide_eq_true_eq]
   refine⟨fun h=>?_,fun _=>trivial⟩
   have e:lGet x (iNat (i:Int)) []=x.getD i []:=by rw[lGet_eq,iNat_eq,Int.toNat_natCast]
   have h1:(x.getD i []).length≤1048576:=(hs.1.2 _ (getD_mem x i [] (by omega))).1
   have h2:x.length≤1048576:=hs.1.1
   rw[e]
   refine⟨⟨by omega,h⟩,by rw[iNat_eq];omega,by unfold roomy;simp only[List.length_nil];omega,by unfold roomy;simp only[List.length_cons,List.length_nil];omega⟩)
 exact⟨a1,by rw[a2]⟩
theorem copyKeymap_id(k:Int)(x:List (List (Int×Int×Int×Int)))(hs:sm_Keymap (k,x)):ok_impl_copyKeymap (k,x)∧v_impl_copyKeymap (k,x)=(k,x):=by
 rw[oe_impl_copyKeymap,ve_impl_copyKeymap]
 obtain⟨a1,a2⟩:=copy_app (c:=lc_impl_copyKeymap_1 (k,x)) (f:=lf_impl_copyKeymap_1 (k,x)) (p:=lp_impl_copyKeymap_1 (k,x)) x [] hs.1.1 (fun i l=>by simp[lc_impl_copyKeymap_1,iLt_eq,lLen_eq])
  (fun i l _=>by simp[lf_impl_copyKeymap_1,lApp_eq,lGet_eq,iNat_eq]) (fun i l hi hl=>by
   simp only[lp_impl_copyKeymap_1,iLt_eq,lLen_eq,decide_eq_true_eq]
   refine⟨fun h=>?_,fun _=>trivial⟩
   have e:lGet x (iNat (i:Int)) []=x.getD i []:=by rw[lGet_eq,iNat_eq,Int.toNat_natCast]
   have h1:(x.getD i []).length≤1048576:=(hs.1.2 _ (getD_mem x i [] (by omega))).1
   have h2:x.length≤1048576:=hs.1.1
   rw[e]
   refine⟨⟨by omega,h⟩,by rw[iNat_eq];omega,by unfold roomy;omega,by unfold roomy;simp only[List.length_cons,List.length_nil];omega⟩)
 exact⟨a1,by rw[a2]⟩
theorem copyMacros_id(x:List (List (Int×Int×Int)))(hs:sm_StepSS x):ok_impl_copyMacros x∧v_impl_copyMacros x=x:=by
 rw[oe_impl_copyMacros,ve_impl_copyMacros]
 obtain⟨a1,a2⟩:=copy_app' (c:=lc_impl_copyMacros_1 x) (f:=lf_impl_copyMacros_1 x) (p:=lp_impl_copyMacros_1 x) x [] hs.1 (fun i l=>by simp[lc_impl_copyMacros_1,iLt_eq,lLen_eq])
  (fun i l _=>by simp[lf_impl_copyMacros_1,lApp_eq,lGet_eq,iNat_eq]) (fun i l hi hl=>by
   simp only[lp_impl_copyMacros_1,iLt_eq,lLen_eq,decide_eq_true_eq]
   refine⟨fun h=>?_,fun _=>trivial⟩
   have e:lGet x (iNat (i:Int)) []=x.getD i []:=by rw[lGet_eq,iNat_eq,Int.toNat_natCast]
   have:=(hs.2 _ (getD_mem x i [] (by omega))).1
   have:=hs.1
   rw[e]
   refine⟨⟨by omega,h⟩,by rw[iNat_eq];omega,by unfold roomy;omega,by unfold roomy;simp only[List.length_cons,List.length_nil];omega⟩)
 exact⟨a1,by rw[a2]⟩
theorem l9Copy_id(x:EngX)(hs:sm_Engine x):ok_spec_l9Copy x∧v_spec_l9Copy x=x:=by
 obtain⟨keys,layers,macros,fixed,held,once,caps⟩:=x
 have hm:sm_StepSS macros:=hs.2.1
 have hh:sm_HeldS held:=hs.2.2.1
 obtain⟨c1,c2⟩:=l6Copy_id keys layers hs.1
 rw[oe_spec_l9Copy,ve_spec_l9Copy]
 obtain⟨a1,a2⟩:=copy_app (c:=lc_spec_l9Copy_1 (keys,layers,macros,fixed,held,once,caps)) (f:=lf_spec_l9Copy_1 (keys,layers,macros,fixed,held,once,caps)) (p:=lp_spec_l9Copy_1 (keys,layers,macros,fixed,held,once,caps)) macros [] hm.1 (fun i l=>by simp[lc_spec_l9Copy_1,iLt_eq,lLen_eq])
  (fun i l _=>by simp[lf_spec_l9Copy_1,lApp_eq,lGet_eq,iNat_eq]) (fun i l hi hl=>by
   simp only[lp_spec_l9Copy_1,iLt_eq,lLen_eq,decide_eq_true_eq]
   refine⟨fun h=>?_,fun _=>trivial⟩
   have e:lGet macros (iNat (i:Int)) []=macros.getD i []:=by rw[lGet_eq,iNat_eq,Int.toNat_natCast]
   have:=(hm.2 _ (getD_mem macros i [] (by omega))).1
   have:=hm.1
   rw[e]
   refine⟨⟨by omega,h⟩,by rw[iNat_eq];omega,by unfold roomy;simp only[List.length_nil];omega,by unfold roomy;simp only[List.length_cons,List.length_nil];omega⟩)
 have hl:=hh.1
 refine⟨⟨c1,a1,by unfold roomy;simp only[List.length_nil];omega⟩,?_⟩
 rw[a2]
 simp only[c2,lApp_eq,List.nil_append]
theorem newEngine_two(k:Int)(x:List (List (Int×Int×Int×Int)))(m:List (List (Int×Int×Int)))(hk:sm_Keymap (k,x))(hm:sm_StepSS m) :
 ok_spec_NewEngine ((k,x),m)∧ok_impl_NewEngine ((k,x),m)∧v_impl_NewEngine ((k,x),m)=v_spec_NewEngine ((k,x),m)∧sm_Engine (v_spec_NewEngine ((k,x),m)).1:=by
 have hh:sm_HeldS []:=⟨by simp,by simp⟩
 have hs:sm_Engine (k,x,m,0,[],0,false):=⟨hk,hm,hh,trivial⟩
 have hz:sm_Engine (0,[],[],0,[],0,false):=⟨⟨⟨by simp,by simp⟩,trivial⟩,⟨by simp,by simp⟩,hh,trivial⟩
 obtain⟨a1,a2⟩:=copyKeymap_id k x hk
 obtain⟨b1,b2⟩:=copyMacros_id m hm
 obtain⟨c1,c2,c3⟩:=isEngine_two _ hs
 obtain⟨d1,d2⟩:=l9Copy_id _ hs
 rw[oe_spec_NewEngine,oe_impl_NewEngine,ve_spec_NewEngine,ve_impl_NewEngine]
 simp only[a2,b2,c3,d2,a1,b1,c1,c2,d1]
 refine⟨by simp,by simp,trivial,?_⟩
 rw[bSel_eq];split
 · exact hz
 · exact hs
theorem plain_FnExactNewEngine(x:(Int×(List (List (Int×Int×Int×Int))))×(List (List (Int×Int×Int))))(hw:TuX.wf h_laws_FnExactNewEngine x):ok_laws_FnExactNewEngine x∧v_laws_FnExactNewEngine x=true:=by
 obtain⟨⟨k,x⟩,m⟩:=x
 rw[oe_laws_FnExactNewEngine,ve_laws_FnExactNewEngine]
 obtain⟨k1,k2⟩:=sz_Keymap (k,x) (wl_Keymap_of hw.1.2) 1048576 (by omega) (by omega)
 rcases k2 with k2|⟨k2,k4,k3⟩
 · have e:iLt (v_laws_szKeymap ((k,x),1048576)) 0=true:=by rw[iLt_eq];simpa using k2
   simp only[e];simp[bOr_eq,k1]
 · have e:iLt (v_laws_szKeymap ((k,x),1048576)) 0=false:=by rw[iLt_eq];simpa using k2
   have hw2:wl_StepSS m:=⟨hw.2.1,fun l hl=>⟨(hw.2.2 l hl).1,fun a _=>by simp[wl_Step]⟩⟩
   obtain⟨j1,j2⟩:=sz_StepSS m hw2 _ k2 k4
   rcases j2 with j2|⟨j2,_,j3⟩
   · have e2:iLt (v_laws_szStepSS (m,v_laws_szKeymap ((k,x),1048576))) 0=true:=by rw[iLt_eq];simpa using j2
     simp only[e,e2];simp[bOr_eq,k1,j1]
   · have e2:iLt (v_laws_szStepSS (m,v_laws_szKeymap ((k,x),1048576))) 0=false:=by rw[iLt_eq];simpa using j2
     obtain⟨t1,t2⟩:=to_Keymap (k,x) k3
     obtain⟨u1,u2⟩:=to_StepSS m j3
     obtain⟨r1,r2,r3,r4⟩:=newEngine_two k x m k3 j3
     obtain⟨q1,q2⟩:=eq_Keymap (k,x) (k,x) k3
     have q2:=q2.2 rfl
     obtain⟨p1,p2⟩:=eq_StepSS m m j3
     have p2:=p2.2 rfl
     obtain⟨b1,b2⟩:=eq_Engine _ (v_spec_NewEngine ((k,x),m)).1 r4
     have b2:=b2.2 rfl
     obtain⟨m1,⟨m2,m3⟩,_,_⟩:=mh_Keymap (k,x) k3 1 (by omega) (by omega)
     obtain⟨l1,⟨l2,l3⟩,_,_⟩:=mh_StepSS m j3 (mg_laws_markKeymap (k,x) 1).2 (by omega) (by omega)
     obtain⟨n1,⟨n2,n3⟩,n4,n5⟩:=mh_Engine _ r4 1 (by omega) (by omega)
     have c1:iLt (mg_laws_markStepSS m (mg_laws_markKeymap (k,x) 1).2).2 0=false:=by rw[iLt_eq];simp;omega
     have c2:iLt (mg_laws_markEngine (v_spec_NewEngine ((k,x),m)).1 1).2 0=false:=by rw[iLt_eq];simp;omega
     simp only[e,e2,t2,u2,r3,k1,j1,t1,u1,r1,r2,q1,q2,p1,p2,b1,b2,m1,l1,n1,n4,n5,c1,c2]
     simp[bOr_eq,bAnd_eq,bNot_eq,bIff_eq,iNe_eq]
end Go.Ag
