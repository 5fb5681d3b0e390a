/-
  Part 6 of what the law FnExactUnpackKeymap needs: an abstract semantics proved sound, the program's functions in its form, plain Lean about them. No conditions.
-/
import Derived.KernelRfl
import Derived.Test.YthljgcjmaabnoaaLibE
namespace Go.Ag
set_option linter.unusedSimpArgs false
set_option linter.unusedVariables false
section
set_option maxRecDepth 8000
noncomputable def dc_spec_IsKeymap : DCode :=
  (.seq [1] (.region [oa 0 1 (.boxB 0 2 (.t 0)),
 oa 1 2 (.mv (.c (.bool false)))])
  (.seq [1] (.seq [3, 1] (.region [oi 0 3 0])
  (.block 0 (.loop [1, 3] 1 (.seq [3, 1] (.seq [10, 3, 1] (.region [om 0 6 3,
 oa 1 7 (.fieldA 1 (.t 1)),
 oa 2 8 (.loadB 0 none (.t 7)),
 oa 3 9 (.len (.t 8)),
 oa 4 10 (.bin .lss (.t 6) (.t 9))])
  (.cond (.t 10) .skip (.exit 0)))
  (.seq [3, 1] (.block 1 (.seq [3, 1] (.seq [21, 3, 1] (.region [oa 0 13 (.fieldA 1 (.t 1)),
 xA 1 14 (.loadB 0 none (.t 13)) (rg 1),
 om 2 15 3,
 xA 3 16 (.indexA 1 (.t 14) (.t 15)) (rg 3),
 xA 4 17 (.loadH none (.t 16)) (rg 4),
 xA 5 18 (.len (.t 17)) (rg 5),
 oa 6 19 (.fieldA 0 (.t 1)),
 xA 7 20 (.loadB 0 none (.t 19)) [6],
 xA 8 21 (.bin .neq (.t 18) (.t 20)) (rg 8)])
  (.cond (.t 21) (.seq [2] (.region [oa 0 2 (.mv (.c (.bool false)))])
  .ret) .skip))
  (.seq [4, 3, 1] (.region [oi 0 4 0])
  (.block 2 (.loop [1, 3, 4] 1 (.seq [4, 3, 1] (.seq [29, 4, 3, 1] (.region [om 0 22 4,
 oa 1 23 (.fieldA 1 (.t 1)),
 oa 2 24 (.loadB 0 none (.t 23)),
 om 3 25 3,
 oa 4 26 (.indexA 1 (.t 24) (.t 25)),
 oa 5 27 (.loadH none (.t 26)),
 oa 6 28 (.len (.t 27)),
 oa 7 29 (.bin .lss (.t 22) (.t 28))])
  (.cond (.t 29) .skip (.exit 2)))
  (.seq [4, 3, 1] (.block 3 (.seq [5, 4, 3, 1] (.region [oa 0 32 (.fieldA 1 (.t 1)),
 oa 1 33 (.loadB 0 none (.t 32)),
 om 2 34 3,
 oa 3 35 (.indexA 1 (.t 33) (.t 34)),
 oa 4 36 (.loadH none (.t 35)),
 om 5 37 4,
 oa 6 38 (.indexA 4 (.t 36) (.t 37)),
 ob 7 39 (.loadH (some 4) (.t 38)),
 oa 8 5 (.allocB 1 [(.int .i64 0), (.int .i64 0), (.int .i64 0), (.int .i64 0)]),
 os 9 (.storeB 1 4 (.t 5) (.t 39))])
  (.seq [64, 4, 3, 1] (.region [oa 0 40 (.loadB 1 (some 4) (.t 5)),
 oc 1 41 s_spec_IsAction p_spec_IsAction D_spec_IsAction [(.t 40)],
 oa 2 42 (.un .not (.t 41)),
 om 3 43 42,
 og 4 44 (.fieldA 0 (.t 5)) 43 false,
 og 5 45 (.loadB 1 none (.t 44)) 43 false,
 og 6 46 (.bin .eql (.t 45) (.c (.int .i64 1))) 43 false,
 og 7 47 (.mv (.t 46)) 43 false,
 og 8 48 (.mv (.t 3)) 47 true,
 og 9 49 (.bin .eql (.t 48) (.c (.int .i64 0))) 47 true,
 og 10 50 (.pick (.t 47) (.t 49) (.c (.bool false))) 43 false,
 oa 11 51 (.pick (.t 43) (.c (.bool true)) (.t 50)),
 om 12 52 51,
 og 13 53 (.fieldA 0 (.t 5)) 52 false,
 og 14 54 (.loadB 1 none (.t 53)) 52 false,
 og 15 55 (.bin .neq (.t 54) (.c (.int .i64 9))) 52 false,
 og 16 56 (.mv (.t 55)) 52 false,
 og 17 57 (.fieldA 3 (.t 5)) 56 true,
 og 18 58 (.loadB 1 none (.t 57)) 56 true,
 og 19 59 (.fieldA 1 (.t 1)) 56 true,
 og 20 60 (.loadB 0 none (.t 59)) 56 true,
 og 21 61 (.len (.t 60)) 56 true,
 og 22 62 (.bin .geq (.t 58) (.t 61)) 56 true,
 og 23 63 (.pick (.t 56) (.t 62) (.c (.bool false))) 52 false,
 oa 24 64 (.pick (.t 52) (.c (.bool true)) (.t 63))])
  (.cond (.t 64) (.seq [2] (.region [oa 0 2 (.mv (.c (.bool false)))])
  .ret) .skip))))
  (.region [om 0 30 4,
 oa 1 31 (.bin .add (.t 30) (.c (.int .i64 1))),
 om 2 4 31]))))))))
  (.region [om 0 11 3,
 oa 1 12 (.bin .add (.t 11) (.c (.int .i64 1))),
 om 2 3 12]))))))
  (.seq [2] (.region [oa 0 65 (.fieldA 0 (.t 1)),
 oa 1 66 (.loadB 0 none (.t 65)),
 oc 2 67 s_spec_l1In p_spec_l1In D_spec_l1In [(.t 66), (.c (.int .i64 1)), (.c (.int .i64 32))],
 om 3 68 67,
 og 4 69 (.fieldA 1 (.t 1)) 68 true,
 og 5 70 (.loadB 0 none (.t 69)) 68 true,
 og 6 71 (.len (.t 70)) 68 true,
 ⟨7, some 72, .call false s_spec_l1In p_spec_l1In D_spec_l1In [(.t 71), (.c (.int .i64 1)), (.c (.int .i64 4))], (some (68, true)), []⟩,
 oa 8 73 (.pick (.t 68) (.t 72) (.c (.bool false))),
 om 9 2 73])
  .ret)))
noncomputable def df_spec_IsKeymap : DFun := ⟨1, 74, 2, true, [.tmp 2], dc_spec_IsKeymap⟩
noncomputable def pf_spec_IsKeymap : PFun := df_spec_IsKeymap.er
noncomputable def f_spec_IsKeymap : AFun := pf_spec_IsKeymap.er
@[irreducible] noncomputable def s_spec_IsKeymap : CallSem := funSem f_spec_IsKeymap
@[irreducible] noncomputable def p_spec_IsKeymap : PSem := pfunSem pf_spec_IsKeymap
theorem sp_spec_IsKeymap : SoundP s_spec_IsKeymap p_spec_IsKeymap := by unfold s_spec_IsKeymap p_spec_IsKeymap; exact pfun_sound (f := pf_spec_IsKeymap) ⟨sp_spec_IsAction, sp_spec_l1In, sp_spec_l1In, trivial⟩
def h_spec_IsKeymap : List HT := [.agg [(.frz, .int .i64), (.frz, .sl (.one (.sl (.cons (.int .i64) (.cons (.int .i64) (.cons (.int .i64) (.one (.int .i64))))))))]]
def q_spec_IsKeymap : QT := .one (.one .own (.bool))
@[irreducible] noncomputable def v_spec_IsKeymap (x : Int × (List (List (Int × Int × Int × Int)))) : Bool := (shut fun x => fnV df_spec_IsKeymap h_spec_IsKeymap q_spec_IsKeymap x).1 x
@[irreducible] noncomputable def ok_spec_IsKeymap (x : Int × (List (List (Int × Int × Int × Int)))) : Prop := (shut fun x => fnOk df_spec_IsKeymap h_spec_IsKeymap q_spec_IsKeymap x).1 x
theorem vu_spec_IsKeymap (x : Int × (List (List (Int × Int × Int × Int)))) : v_spec_IsKeymap x = fnV df_spec_IsKeymap h_spec_IsKeymap q_spec_IsKeymap x := by unfold v_spec_IsKeymap; exact congrFun (shut _).2 x
theorem ou_spec_IsKeymap (x : Int × (List (List (Int × Int × Int × Int)))) : ok_spec_IsKeymap x = fnOk df_spec_IsKeymap h_spec_IsKeymap q_spec_IsKeymap x := by unfold ok_spec_IsKeymap; exact congrFun (shut _).2 x
noncomputable def D_spec_IsKeymap : DSem := DSemOf h_spec_IsKeymap q_spec_IsKeymap ok_spec_IsKeymap v_spec_IsKeymap
theorem ck_spec_IsKeymap (x : Int × (List (List (Int × Int × Int × Int)))) : fnChk df_spec_IsKeymap h_spec_IsKeymap q_spec_IsKeymap x = true := by kernel_rfl
theorem ob_spec_IsKeymap : AllD df_spec_IsKeymap.body.obs := ⟨sd_spec_IsAction, sd_spec_l1In, sd_spec_l1In, trivial⟩
theorem st_spec_IsKeymap : fnSt df_spec_IsKeymap h_spec_IsKeymap q_spec_IsKeymap = true := by kernel_rfl
theorem sd_spec_IsKeymap : SoundD p_spec_IsKeymap D_spec_IsKeymap := by unfold p_spec_IsKeymap; exact soundD_of (f := df_spec_IsKeymap) (hs := h_spec_IsKeymap) (q := q_spec_IsKeymap) ob_spec_IsKeymap st_spec_IsKeymap ck_spec_IsKeymap (fun x h => Eq.mp (ou_spec_IsKeymap x) h) (fun x => (vu_spec_IsKeymap x).symm)
noncomputable def dc_impl_IsKeymap : DCode :=
  (.seq [1] (.region [oa 0 1 (.boxB 0 2 (.t 0)),
 oa 1 2 (.mv (.c (.bool false)))])
  (.seq [1] (.seq [26, 1] (.region [oa 0 7 (.fieldA 0 (.t 1)),
 oa 1 8 (.loadB 0 none (.t 7)),
 oa 2 9 (.bin .lss (.t 8) (.c (.int .i64 1))),
 om 3 10 9,
 og 4 11 (.fieldA 0 (.t 1)) 10 false,
 og 5 12 (.loadB 0 none (.t 11)) 10 false,
 og 6 13 (.bin .gtr (.t 12) (.c (.int .i64 32))) 10 false,
 oa 7 14 (.pick (.t 10) (.c (.bool true)) (.t 13)),
 om 8 15 14,
 og 9 16 (.fieldA 1 (.t 1)) 15 false,
 og 10 17 (.loadB 0 none (.t 16)) 15 false,
 og 11 18 (.len (.t 17)) 15 false,
 og 12 19 (.bin .lss (.t 18) (.c (.int .i64 1))) 15 false,
 oa 13 20 (.pick (.t 15) (.c (.bool true)) (.t 19)),
 om 14 21 20,
 og 15 22 (.fieldA 1 (.t 1)) 21 false,
 og 16 23 (.loadB 0 none (.t 22)) 21 false,
 og 17 24 (.len (.t 23)) 21 false,
 og 18 25 (.bin .gtr (.t 24) (.c (.int .i64 4))) 21 false,
 oa 19 26 (.pick (.t 21) (.c (.bool true)) (.t 25))])
  (.cond (.t 26) (.seq [2] (.region [oa 0 2 (.mv (.c (.bool false)))])
  .ret) .skip))
  (.seq [] (.seq [30, 29, 28, 1] (.region [oa 0 27 (.fieldA 1 (.t 1)),
 oa 1 28 (.loadB 0 none (.t 27)),
 oa 2 29 (.len (.t 28)),
 oi 3 30 0])
  (.block 0 (.loop [1, 28, 29, 30] 1 (.seq [31, 30, 29, 28, 1] (.region [oa 0 31 (.bin .lss (.t 30) (.t 29))])
  (.seq [30, 29, 28, 1] (.cond (.t 31) .skip (.exit 0))
  (.seq [30, 29, 28, 1] (.block 1 (.seq [30, 29, 28, 4, 3, 1] (.region [om 0 32 30,
 oa 1 33 (.indexA 1 (.t 28) (.t 30)),
 oa 2 34 (.loadH none (.t 33)),
 om 3 3 32,
 on 4 4 34])
  (.seq [30, 29, 28, 4, 3, 1] (.seq [39, 30, 29, 28, 4, 3, 1] (.region [on 0 35 4,
 oa 1 36 (.len (.t 35)),
 oa 2 37 (.fieldA 0 (.t 1)),
 oa 3 38 (.loadB 0 none (.t 37)),
 oa 4 39 (.bin .neq (.t 36) (.t 38))])
  (.cond (.t 39) (.seq [2] (.region [oa 0 2 (.mv (.c (.bool false)))])
  .ret) .skip))
  (.seq [42, 41, 40, 30, 29, 28, 3, 1] (.region [on 0 40 4,
 oa 1 41 (.len (.t 40)),
 oi 2 42 0])
  (.block 2 (.loop [1, 3, 28, 29, 30, 40, 41, 42] 1 (.seq [43, 42, 41, 40, 30, 29, 28, 3, 1] (.region [oa 0 43 (.bin .lss (.t 42) (.t 41))])
  (.seq [42, 41, 40, 30, 29, 28, 3, 1] (.cond (.t 43) .skip (.exit 2))
  (.seq [42, 41, 40, 30, 29, 28, 3, 1] (.block 3 (.seq [42, 41, 40, 30, 29, 28, 6, 3, 1] (.region [oa 0 44 (.indexA 4 (.t 40) (.t 42)),
 ob 1 45 (.loadH (some 4) (.t 44)),
 oa 2 6 (.allocB 1 [(.int .i64 0), (.int .i64 0), (.int .i64 0), (.int .i64 0)]),
 os 3 (.storeB 1 4 (.t 6) (.t 45))])
  (.seq [70, 42, 41, 40, 30, 29, 28, 3, 1] (.region [oa 0 46 (.loadB 1 (some 4) (.t 6)),
 oc 1 47 s_impl_IsAction p_impl_IsAction D_impl_IsAction [(.t 46)],
 oa 2 48 (.un .not (.t 47)),
 om 3 49 48,
 og 4 50 (.mv (.t 3)) 49 false,
 og 5 51 (.bin .eql (.t 50) (.c (.int .i64 0))) 49 false,
 og 6 52 (.mv (.t 51)) 49 false,
 og 7 53 (.fieldA 0 (.t 6)) 52 true,
 og 8 54 (.loadB 1 none (.t 53)) 52 true,
 og 9 55 (.bin .eql (.t 54) (.c (.int .i64 1))) 52 true,
 og 10 56 (.pick (.t 52) (.t 55) (.c (.bool false))) 49 false,
 oa 11 57 (.pick (.t 49) (.c (.bool true)) (.t 56)),
 om 12 58 57,
 og 13 59 (.fieldA 0 (.t 6)) 58 false,
 og 14 60 (.loadB 1 none (.t 59)) 58 false,
 og 15 61 (.bin .neq (.t 60) (.c (.int .i64 9))) 58 false,
 og 16 62 (.mv (.t 61)) 58 false,
 og 17 63 (.fieldA 3 (.t 6)) 62 true,
 og 18 64 (.loadB 1 none (.t 63)) 62 true,
 og 19 65 (.fieldA 1 (.t 1)) 62 true,
 og 20 66 (.loadB 0 none (.t 65)) 62 true,
 og 21 67 (.len (.t 66)) 62 true,
 og 22 68 (.bin .geq (.t 64) (.t 67)) 62 true,
 og 23 69 (.pick (.t 62) (.t 68) (.c (.bool false))) 58 false,
 oa 24 70 (.pick (.t 58) (.c (.bool true)) (.t 69))])
  (.cond (.t 70) (.seq [2] (.region [oa 0 2 (.mv (.c (.bool false)))])
  .ret) .skip))))
  (.region [oa 0 71 (.bin .add (.t 42) (.c (.int .i64 1))),
 om 1 42 71]))))))))))
  (.region [oa 0 72 (.bin .add (.t 30) (.c (.int .i64 1))),
 om 1 30 72])))))))
  (.seq [2] (.region [oa 0 2 (.mv (.c (.bool true)))])
  .ret))))
noncomputable def df_impl_IsKeymap : DFun := ⟨1, 73, 2, true, [.tmp 2], dc_impl_IsKeymap⟩
noncomputable def pf_impl_IsKeymap : PFun := df_impl_IsKeymap.er
noncomputable def f_impl_IsKeymap : AFun := pf_impl_IsKeymap.er
@[irreducible] noncomputable def s_impl_IsKeymap : CallSem := funSem f_impl_IsKeymap
@[irreducible] noncomputable def p_impl_IsKeymap : PSem := pfunSem pf_impl_IsKeymap
theorem sp_impl_IsKeymap : SoundP s_impl_IsKeymap p_impl_IsKeymap := by unfold s_impl_IsKeymap p_impl_IsKeymap; exact pfun_sound (f := pf_impl_IsKeymap) ⟨sp_impl_IsAction, trivial⟩
def h_impl_IsKeymap : List HT := [.agg [(.frz, .int .i64), (.frz, .sl (.one (.sl (.cons (.int .i64) (.cons (.int .i64) (.cons (.int .i64) (.one (.int .i64))))))))]]
def q_impl_IsKeymap : QT := .one (.one .own (.bool))
@[irreducible] noncomputable def v_impl_IsKeymap (x : Int × (List (List (Int × Int × Int × Int)))) : Bool := (shut fun x => fnV df_impl_IsKeymap h_impl_IsKeymap q_impl_IsKeymap x).1 x
@[irreducible] noncomputable def ok_impl_IsKeymap (x : Int × (List (List (Int × Int × Int × Int)))) : Prop := (shut fun x => fnOk df_impl_IsKeymap h_impl_IsKeymap q_impl_IsKeymap x).1 x
theorem vu_impl_IsKeymap (x : Int × (List (List (Int × Int × Int × Int)))) : v_impl_IsKeymap x = fnV df_impl_IsKeymap h_impl_IsKeymap q_impl_IsKeymap x := by unfold v_impl_IsKeymap; exact congrFun (shut _).2 x
theorem ou_impl_IsKeymap (x : Int × (List (List (Int × Int × Int × Int)))) : ok_impl_IsKeymap x = fnOk df_impl_IsKeymap h_impl_IsKeymap q_impl_IsKeymap x := by unfold ok_impl_IsKeymap; exact congrFun (shut _).2 x
noncomputable def D_impl_IsKeymap : DSem := DSemOf h_impl_IsKeymap q_impl_IsKeymap ok_impl_IsKeymap v_impl_IsKeymap
theorem ck_impl_IsKeymap (x : Int × (List (List (Int × Int × Int × Int)))) : fnChk df_impl_IsKeymap h_impl_IsKeymap q_impl_IsKeymap x = true := by kernel_rfl
theorem ob_impl_IsKeymap : AllD df_impl_IsKeymap.body.obs := ⟨sd_impl_IsAction, trivial⟩
theorem st_impl_IsKeymap : fnSt df_impl_IsKeymap h_impl_IsKeymap q_impl_IsKeymap = true := by kernel_rfl
theorem sd_impl_IsKeymap : SoundD p_impl_IsKeymap D_impl_IsKeymap := by unfold p_impl_IsKeymap; exact soundD_of (f := df_impl_IsKeymap) (hs := h_impl_IsKeymap) (q := q_impl_IsKeymap) ob_impl_IsKeymap st_impl_IsKeymap ck_impl_IsKeymap (fun x h => Eq.mp (ou_impl_IsKeymap x) h) (fun x => (vu_impl_IsKeymap x).symm)
noncomputable def dc_laws_eqActionS : DCode :=
  (.seq [1, 0] (.region [oa 0 4 (.mv (.c (.bool false)))])
  (.seq [1, 0] (.seq [10, 1, 0] (.region [on 0 6 0,
 oa 1 7 (.len (.t 6)),
 on 2 8 1,
 oa 3 9 (.len (.t 8)),
 oa 4 10 (.bin .neq (.t 7) (.t 9))])
  (.cond (.t 10) (.seq [4] (.region [oa 0 4 (.mv (.c (.bool false)))])
  .ret) .skip))
  (.seq [] (.seq [5, 1, 0] (.region [oi 0 5 0])
  (.block 0 (.loop [0, 1, 5] 1 (.seq [5, 1, 0] (.seq [14, 5, 1, 0] (.region [om 0 11 5,
 on 1 12 0,
 oa 2 13 (.len (.t 12)),
 oa 3 14 (.bin .lss (.t 11) (.t 13))])
  (.cond (.t 14) .skip (.exit 0)))
  (.seq [5, 1, 0] (.block 1 (.seq [26, 5, 1, 0] (.region [on 0 17 0,
 om 1 18 5,
 xA 2 19 (.indexA 4 (.t 17) (.t 18)) (rg 2),
 xA 3 20 (.loadH (some 4) (.t 19)) (rg 3),
 on 4 21 1,
 om 5 22 5,
 xA 6 23 (.indexA 4 (.t 21) (.t 22)) [4, 5],
 xA 7 24 (.loadH (some 4) (.t 23)) [4, 5, 6],
 xC 8 25 s_laws_eqAction p_laws_eqAction D_laws_eqAction [(.t 20), (.t 24)] (rg 8),
 xA 9 26 (.un .not (.t 25)) (rg 9)])
  (.cond (.t 26) (.seq [4] (.region [oa 0 4 (.mv (.c (.bool false)))])
  .ret) .skip)))
  (.region [om 0 15 5,
 oa 1 16 (.bin .add (.t 15) (.c (.int .i64 1))),
 om 2 5 16]))))))
  (.seq [4] (.region [oa 0 4 (.mv (.c (.bool true)))])
  .ret))))
noncomputable def df_laws_eqActionS : DFun := ⟨2, 27, 0, true, [.tmp 4], dc_laws_eqActionS⟩
noncomputable def pf_laws_eqActionS : PFun := df_laws_eqActionS.er
noncomputable def f_laws_eqActionS : AFun := pf_laws_eqActionS.er
@[irreducible] noncomputable def s_laws_eqActionS : CallSem := funSem f_laws_eqActionS
@[irreducible] noncomputable def p_laws_eqActionS : PSem := pfunSem pf_laws_eqActionS
theorem sp_laws_eqActionS : SoundP s_laws_eqActionS p_laws_eqActionS := by unfold s_laws_eqActionS p_laws_eqActionS; exact pfun_sound (f := pf_laws_eqActionS) ⟨sp_laws_eqAction, trivial⟩
def h_laws_eqActionS : List HT := [.one .frz (.sl (.cons (.int .i64) (.cons (.int .i64) (.cons (.int .i64) (.one (.int .i64)))))), .one .frz (.sl (.cons (.int .i64) (.cons (.int .i64) (.cons (.int .i64) (.one (.int .i64))))))]
def q_laws_eqActionS : QT := .one (.one .own (.bool))
@[irreducible] noncomputable def v_laws_eqActionS (x : (List (Int × Int × Int × Int)) × (List (Int × Int × Int × Int))) : Bool := (shut fun x => fnV df_laws_eqActionS h_laws_eqActionS q_laws_eqActionS x).1 x
@[irreducible] noncomputable def ok_laws_eqActionS (x : (List (Int × Int × Int × Int)) × (List (Int × Int × Int × Int))) : Prop := (shut fun x => fnOk df_laws_eqActionS h_laws_eqActionS q_laws_eqActionS x).1 x
theorem vu_laws_eqActionS (x : (List (Int × Int × Int × Int)) × (List (Int × Int × Int × Int))) : v_laws_eqActionS x = fnV df_laws_eqActionS h_laws_eqActionS q_laws_eqActionS x := by unfold v_laws_eqActionS; exact congrFun (shut _).2 x
theorem ou_laws_eqActionS (x : (List (Int × Int × Int × Int)) × (List (Int × Int × Int × Int))) : ok_laws_eqActionS x = fnOk df_laws_eqActionS h_laws_eqActionS q_laws_eqActionS x := by unfold ok_laws_eqActionS; exact congrFun (shut _).2 x
noncomputable def D_laws_eqActionS : DSem := DSemOf h_laws_eqActionS q_laws_eqActionS ok_laws_eqActionS v_laws_eqActionS
theorem ck_laws_eqActionS (x : (List (Int × Int × Int × Int)) × (List (Int × Int × Int × Int))) : fnChk df_laws_eqActionS h_laws_eqActionS q_laws_eqActionS x = true := by kernel_rfl
theorem ob_laws_eqActionS : AllD df_laws_eqActionS.body.obs := ⟨sd_laws_eqAction, trivial⟩
theorem st_laws_eqActionS : fnSt df_laws_eqActionS h_laws_eqActionS q_laws_eqActionS = true := by kernel_rfl
theorem sd_laws_eqActionS : SoundD p_laws_eqActionS D_laws_eqActionS := by unfold p_laws_eqActionS; exact soundD_of (f := df_laws_eqActionS) (hs := h_laws_eqActionS) (q := q_laws_eqActionS) ob_laws_eqActionS st_laws_eqActionS ck_laws_eqActionS (fun x h => Eq.mp (ou_laws_eqActionS x) h) (fun x => (vu_laws_eqActionS x).symm)
noncomputable def dc_laws_eqActionSS : DCode :=
  (.seq [1, 0] (.region [oa 0 4 (.mv (.c (.bool false)))])
  (.seq [1, 0] (.seq [10, 1, 0] (.region [on 0 6 0,
 oa 1 7 (.len (.t 6)),
 on 2 8 1,
 oa 3 9 (.len (.t 8)),
 oa 4 10 (.bin .neq (.t 7) (.t 9))])
  (.cond (.t 10) (.seq [4] (.region [oa 0 4 (.mv (.c (.bool false)))])
  .ret) .skip))
  (.seq [] (.seq [5, 1, 0] (.region [oi 0 5 0])
  (.block 0 (.loop [0, 1, 5] 1 (.seq [5, 1, 0] (.seq [14, 5, 1, 0] (.region [om 0 11 5,
 on 1 12 0,
 oa 2 13 (.len (.t 12)),
 oa 3 14 (.bin .lss (.t 11) (.t 13))])
  (.cond (.t 14) .skip (.exit 0)))
  (.seq [5, 1, 0] (.block 1 (.seq [26, 5, 1, 0] (.region [on 0 17 0,
 om 1 18 5,
 xA 2 19 (.indexA 1 (.t 17) (.t 18)) (rg 2),
 xA 3 20 (.loadH none (.t 19)) (rg 3),
 on 4 21 1,
 om 5 22 5,
 xA 6 23 (.indexA 1 (.t 21) (.t 22)) [4, 5],
 xA 7 24 (.loadH none (.t 23)) [4, 5, 6],
 xC 8 25 s_laws_eqActionS p_laws_eqActionS D_laws_eqActionS [(.t 20), (.t 24)] (rg 8),
 xA 9 26 (.un .not (.t 25)) (rg 9)])
  (.cond (.t 26) (.seq [4] (.region [oa 0 4 (.mv (.c (.bool false)))])
  .ret) .skip)))
  (.region [om 0 15 5,
 oa 1 16 (.bin .add (.t 15) (.c (.int .i64 1))),
 om 2 5 16]))))))
  (.seq [4] (.region [oa 0 4 (.mv (.c (.bool true)))])
  .ret))))
noncomputable def df_laws_eqActionSS : DFun := ⟨2, 27, 0, true, [.tmp 4], dc_laws_eqActionSS⟩
noncomputable def pf_laws_eqActionSS : PFun := df_laws_eqActionSS.er
noncomputable def f_laws_eqActionSS : AFun := pf_laws_eqActionSS.er
@[irreducible] noncomputable def s_laws_eqActionSS : CallSem := funSem f_laws_eqActionSS
@[irreducible] noncomputable def p_laws_eqActionSS : PSem := pfunSem pf_laws_eqActionSS
theorem sp_laws_eqActionSS : SoundP s_laws_eqActionSS p_laws_eqActionSS := by unfold s_laws_eqActionSS p_laws_eqActionSS; exact pfun_sound (f := pf_laws_eqActionSS) ⟨sp_laws_eqActionS, trivial⟩
def h_laws_eqActionSS : List HT := [.one .frz (.sl (.one (.sl (.cons (.int .i64) (.cons (.int .i64) (.cons (.int .i64) (.one (.int .i64)))))))), .one .frz (.sl (.one (.sl (.cons (.int .i64) (.cons (.int .i64) (.cons (.int .i64) (.one (.int .i64))))))))]
def q_laws_eqActionSS : QT := .one (.one .own (.bool))
@[irreducible] noncomputable def v_laws_eqActionSS (x : (List (List (Int × Int × Int × Int))) × (List (List (Int × Int × Int × Int)))) : Bool := (shut fun x => fnV df_laws_eqActionSS h_laws_eqActionSS q_laws_eqActionSS x).1 x
@[irreducible] noncomputable def ok_laws_eqActionSS (x : (List (List (Int × Int × Int × Int))) × (List (List (Int × Int × Int × Int)))) : Prop := (shut fun x => fnOk df_laws_eqActionSS h_laws_eqActionSS q_laws_eqActionSS x).1 x
theorem vu_laws_eqActionSS (x : (List (List (Int × Int × Int × Int))) × (List (List (Int × Int × Int × Int)))) : v_laws_eqActionSS x = fnV df_laws_eqActionSS h_laws_eqActionSS q_laws_eqActionSS x := by unfold v_laws_eqActionSS; exact congrFun (shut _).2 x
theorem ou_laws_eqActionSS (x : (List (List (Int × Int × Int × Int))) × (List (List (Int × Int × Int × Int)))) : ok_laws_eqActionSS x = fnOk df_laws_eqActionSS h_laws_eqActionSS q_laws_eqActionSS x := by unfold ok_laws_eqActionSS; exact congrFun (shut _).2 x
noncomputable def D_laws_eqActionSS : DSem := DSemOf h_laws_eqActionSS q_laws_eqActionSS ok_laws_eqActionSS v_laws_eqActionSS
theorem ck_laws_eqActionSS (x : (List (List (Int × Int × Int × Int))) × (List (List (Int × Int × Int × Int)))) : fnChk df_laws_eqActionSS h_laws_eqActionSS q_laws_eqActionSS x = true := by kernel_rfl
theorem ob_laws_eqActionSS : AllD df_laws_eqActionSS.body.obs := ⟨sd_laws_eqActionS, trivial⟩
theorem st_laws_eqActionSS : fnSt df_laws_eqActionSS h_laws_eqActionSS q_laws_eqActionSS = true := by kernel_rfl
theorem sd_laws_eqActionSS : SoundD p_laws_eqActionSS D_laws_eqActionSS := by unfold p_laws_eqActionSS; exact soundD_of (f := df_laws_eqActionSS) (hs := h_laws_eqActionSS) (q := q_laws_eqActionSS) ob_laws_eqActionSS st_laws_eqActionSS ck_laws_eqActionSS (fun x h => Eq.mp (ou_laws_eqActionSS x) h) (fun x => (vu_laws_eqActionSS x).symm)
noncomputable def dc_laws_eqKeymap : DCode :=
  (.seq [3, 2] (.region [oa 0 2 (.boxB 0 2 (.t 0)),
 oa 1 3 (.boxB 1 2 (.t 1)),
 oa 2 4 (.mv (.c (.bool false)))])
  (.seq [3, 2] (.seq [9, 3, 2] (.region [oa 0 5 (.fieldA 0 (.t 2)),
 oa 1 6 (.loadB 0 none (.t 5)),
 oa 2 7 (.fieldA 0 (.t 3)),
 oa 3 8 (.loadB 1 none (.t 7)),
 oa 4 9 (.bin .neq (.t 6) (.t 8))])
  (.cond (.t 9) (.seq [4] (.region [oa 0 4 (.mv (.c (.bool false)))])
  .ret) .skip))
  (.seq [] (.seq [15] (.region [oa 0 10 (.fieldA 1 (.t 2)),
 oa 1 11 (.loadB 0 none (.t 10)),
 oa 2 12 (.fieldA 1 (.t 3)),
 oa 3 13 (.loadB 1 none (.t 12)),
 oc 4 14 s_laws_eqActionSS p_laws_eqActionSS D_laws_eqActionSS [(.t 11), (.t 13)],
 oa 5 15 (.un .not (.t 14))])
  (.cond (.t 15) (.seq [4] (.region [oa 0 4 (.mv (.c (.bool false)))])
  .ret) .skip))
  (.seq [4] (.region [oa 0 4 (.mv (.c (.bool true)))])
  .ret))))
noncomputable def df_laws_eqKeymap : DFun := ⟨2, 16, 2, true, [.tmp 4], dc_laws_eqKeymap⟩
noncomputable def pf_laws_eqKeymap : PFun := df_laws_eqKeymap.er
noncomputable def f_laws_eqKeymap : AFun := pf_laws_eqKeymap.er
@[irreducible] noncomputable def s_laws_eqKeymap : CallSem := funSem f_laws_eqKeymap
@[irreducible] noncomputable def p_laws_eqKeymap : PSem := pfunSem pf_laws_eqKeymap
theorem sp_laws_eqKeymap : SoundP s_laws_eqKeymap p_laws_eqKeymap := by unfold s_laws_eqKeymap p_laws_eqKeymap; exact pfun_sound (f := pf_laws_eqKeymap) ⟨sp_laws_eqActionSS, trivial⟩
def h_laws_eqKeymap : List HT := [.agg [(.frz, .int .i64), (.frz, .sl (.one (.sl (.cons (.int .i64) (.cons (.int .i64) (.cons (.int .i64) (.one (.int .i64))))))))], .agg [(.frz, .int .i64), (.frz, .sl (.one (.sl (.cons (.int .i64) (.cons (.int .i64) (.cons (.int .i64) (.one (.int .i64))))))))]]
def q_laws_eqKeymap : QT := .one (.one .own (.bool))
@[irreducible] noncomputable def v_laws_eqKeymap (x : (Int × (List (List (Int × Int × Int × Int)))) × (Int × (List (List (Int × Int × Int × Int))))) : Bool := (shut fun x => fnV df_laws_eqKeymap h_laws_eqKeymap q_laws_eqKeymap x).1 x
@[irreducible] noncomputable def ok_laws_eqKeymap (x : (Int × (List (List (Int × Int × Int × Int)))) × (Int × (List (List (Int × Int × Int × Int))))) : Prop := (shut fun x => fnOk df_laws_eqKeymap h_laws_eqKeymap q_laws_eqKeymap x).1 x
theorem vu_laws_eqKeymap (x : (Int × (List (List (Int × Int × Int × Int)))) × (Int × (List (List (Int × Int × Int × Int))))) : v_laws_eqKeymap x = fnV df_laws_eqKeymap h_laws_eqKeymap q_laws_eqKeymap x := by unfold v_laws_eqKeymap; exact congrFun (shut _).2 x
theorem ou_laws_eqKeymap (x : (Int × (List (List (Int × Int × Int × Int)))) × (Int × (List (List (Int × Int × Int × Int))))) : ok_laws_eqKeymap x = fnOk df_laws_eqKeymap h_laws_eqKeymap q_laws_eqKeymap x := by unfold ok_laws_eqKeymap; exact congrFun (shut _).2 x
noncomputable def D_laws_eqKeymap : DSem := DSemOf h_laws_eqKeymap q_laws_eqKeymap ok_laws_eqKeymap v_laws_eqKeymap
theorem ck_laws_eqKeymap (x : (Int × (List (List (Int × Int × Int × Int)))) × (Int × (List (List (Int × Int × Int × Int))))) : fnChk df_laws_eqKeymap h_laws_eqKeymap q_laws_eqKeymap x = true := by kernel_rfl
theorem ob_laws_eqKeymap : AllD df_laws_eqKeymap.body.obs := ⟨sd_laws_eqActionSS, trivial⟩
theorem st_laws_eqKeymap : fnSt df_laws_eqKeymap h_laws_eqKeymap q_laws_eqKeymap = true := by kernel_rfl
theorem sd_laws_eqKeymap : SoundD p_laws_eqKeymap D_laws_eqKeymap := by unfold p_laws_eqKeymap; exact soundD_of (f := df_laws_eqKeymap) (hs := h_laws_eqKeymap) (q := q_laws_eqKeymap) ob_laws_eqKeymap st_laws_eqKeymap ck_laws_eqKeymap (fun x h => Eq.mp (ou_laws_eqKeymap x) h) (fun x => (vu_laws_eqKeymap x).symm)
end
section
set_option maxRecDepth 100000
theorem ve_spec_IsKeymap (x : Int × (List (List (Int × Int × Int × Int)))) : v_spec_IsKeymap x = (bAnd (bNot (iLt (loopV (fun (x0 : Int) => (bAnd (iLt x0 (lLen x.2)) (bAnd (bNot (iNe (lLen (lGet x.2 (iNat x0) [])) x.1)) (bNot (iLt (loopV (fun (x1 : Int) => (bAnd (iLt x1 (lLen (lGet x.2 (iNat x0) []))) (bNot (bOr (bNot (v_spec_IsAction ((lGet (lGet x.2 (iNat x0) []) (iNat x1) (0, 0, 0, 0)).1, (lGet (lGet x.2 (iNat x0) []) (iNat x1) (0, 0, 0, 0)).2.1, (lGet (lGet x.2 (iNat x0) []) (iNat x1) (0, 0, 0, 0)).2.2.1, (lGet (lGet x.2 (iNat x0) []) (iNat x1) (0, 0, 0, 0)).2.2.2))) (bSel (iEq (lGet (lGet x.2 (iNat x0) []) (iNat x1) (0, 0, 0, 0)).1 1) (bOr (iEq x0 0) (bAnd (iNe (lGet (lGet x.2 (iNat x0) []) (iNat x1) (0, 0, 0, 0)).1 9) (iGe (lGet (lGet x.2 (iNat x0) []) (iNat x1) (0, 0, 0, 0)).2.2.2 (lLen x.2)))) (bAnd (iNe (lGet (lGet x.2 (iNat x0) []) (iNat x1) (0, 0, 0, 0)).1 9) (iGe (lGet (lGet x.2 (iNat x0) []) (iNat x1) (0, 0, 0, 0)).2.2.2 (lLen x.2)))))))) (fun (x1 : Int) => (iAdd Go.IntKind.i64 x1 1)) 0) (lLen (lGet x.2 (iNat x0) []))))))) (fun (x0 : Int) => (iAdd Go.IntKind.i64 x0 1)) 0) (lLen x.2))) (bAnd (v_spec_l1In (x.1, 1, 32)) (v_spec_l1In ((lLen x.2), 1, 4)))) := (vu_spec_IsKeymap x).trans (by kernel_rfl)
theorem oe_spec_IsKeymap (x : Int × (List (List (Int × Int × Int × Int)))) : ok_spec_IsKeymap x = ((LoopOk (fun (x0 : Int) => (bAnd (iLt x0 (lLen x.2)) (bAnd (bNot (iNe (lLen (lGet x.2 (iNat x0) [])) x.1)) (bNot (iLt (loopV (fun (x1 : Int) => (bAnd (iLt x1 (lLen (lGet x.2 (iNat x0) []))) (bNot (bOr (bNot (v_spec_IsAction ((lGet (lGet x.2 (iNat x0) []) (iNat x1) (0, 0, 0, 0)).1, (lGet (lGet x.2 (iNat x0) []) (iNat x1) (0, 0, 0, 0)).2.1, (lGet (lGet x.2 (iNat x0) []) (iNat x1) (0, 0, 0, 0)).2.2.1, (lGet (lGet x.2 (iNat x0) []) (iNat x1) (0, 0, 0, 0)).2.2.2))) (bSel (iEq (lGet (lGet x.2 (iNat x0) []) (iNat x1) (0, 0, 0, 0)).1 1) (bOr (iEq x0 0) (bAnd (iNe (lGet (lGet x.2 (iNat x0) []) (iNat x1) (0, 0, 0, 0)).1 9) (iGe (lGet (lGet x.2 (iNat x0) []) (iNat x1) (0, 0, 0, 0)).2.2.2 (lLen x.2)))) (bAnd (iNe (lGet (lGet x.2 (iNat x0) []) (iNat x1) (0, 0, 0, 0)).1 9) (iGe (lGet (lGet x.2 (iNat x0) []) (iNat x1) (0, 0, 0, 0)).2.2.2 (lLen x.2)))))))) (fun (x1 : Int) => (iAdd Go.IntKind.i64 x1 1)) 0) (lLen (lGet x.2 (iNat x0) []))))))) (fun (x0 : Int) => (iAdd Go.IntKind.i64 x0 1)) (fun (x0 : Int) => (((iLt x0 (lLen x.2)) = true → ((((0 : Int) ≤ x0) ∧ (x0 < (((List.length x.2) : Int)))) ∧ (((iNat x0) < (List.length x.2)) ∧ (((iNe (lLen (lGet x.2 (iNat x0) [])) x.1) = true → True) ∧ ((iNe (lLen (lGet x.2 (iNat x0) [])) x.1) = false → (LoopOk (fun (x1 : Int) => (bAnd (iLt x1 (lLen (lGet x.2 (iNat x0) []))) (bNot (bOr (bNot (v_spec_IsAction ((lGet (lGet x.2 (iNat x0) []) (iNat x1) (0, 0, 0, 0)).1, (lGet (lGet x.2 (iNat x0) []) (iNat x1) (0, 0, 0, 0)).2.1, (lGet (lGet x.2 (iNat x0) []) (iNat x1) (0, 0, 0, 0)).2.2.1, (lGet (lGet x.2 (iNat x0) []) (iNat x1) (0, 0, 0, 0)).2.2.2))) (bSel (iEq (lGet (lGet x.2 (iNat x0) []) (iNat x1) (0, 0, 0, 0)).1 1) (bOr (iEq x0 0) (bAnd (iNe (lGet (lGet x.2 (iNat x0) []) (iNat x1) (0, 0, 0, 0)).1 9) (iGe (lGet (lGet x.2 (iNat x0) []) (iNat x1) (0, 0, 0, 0)).2.2.2 (lLen x.2)))) (bAnd (iNe (lGet (lGet x.2 (iNat x0) []) (iNat x1) (0, 0, 0, 0)).1 9) (iGe (lGet (lGet x.2 (iNat x0) []) (iNat x1) (0, 0, 0, 0)).2.2.2 (lLen x.2)))))))) (fun (x1 : Int) => (iAdd Go.IntKind.i64 x1 1)) (fun (x1 : Int) => ((((0 : Int) ≤ x0) ∧ (x0 < (((List.length x.2) : Int)))) ∧ (((iNat x0) < (List.length x.2)) ∧ (((iLt x1 (lLen (lGet x.2 (iNat x0) []))) = true → ((((0 : Int) ≤ x0) ∧ (x0 < (((List.length x.2) : Int)))) ∧ (((iNat x0) < (List.length x.2)) ∧ ((((0 : Int) ≤ x1) ∧ (x1 < (((List.length (lGet x.2 (iNat x0) [])) : Int)))) ∧ (((iNat x1) < (List.length (lGet x.2 (iNat x0) []))) ∧ (ok_spec_IsAction ((lGet (lGet x.2 (iNat x0) []) (iNat x1) (0, 0, 0, 0)).1, (lGet (lGet x.2 (iNat x0) []) (iNat x1) (0, 0, 0, 0)).2.1, (lGet (lGet x.2 (iNat x0) []) (iNat x1) (0, 0, 0, 0)).2.2.1, (lGet (lGet x.2 (iNat x0) []) (iNat x1) (0, 0, 0, 0)).2.2.2))))))) ∧ ((iLt x1 (lLen (lGet x.2 (iNat x0) []))) = false → True))))) 0)))))) ∧ ((iLt x0 (lLen x.2)) = false → True))) 0) ∧ (((iLt (loopV (fun (x0 : Int) => (bAnd (iLt x0 (lLen x.2)) (bAnd (bNot (iNe (lLen (lGet x.2 (iNat x0) [])) x.1)) (bNot (iLt (loopV (fun (x1 : Int) => (bAnd (iLt x1 (lLen (lGet x.2 (iNat x0) []))) (bNot (bOr (bNot (v_spec_IsAction ((lGet (lGet x.2 (iNat x0) []) (iNat x1) (0, 0, 0, 0)).1, (lGet (lGet x.2 (iNat x0) []) (iNat x1) (0, 0, 0, 0)).2.1, (lGet (lGet x.2 (iNat x0) []) (iNat x1) (0, 0, 0, 0)).2.2.1, (lGet (lGet x.2 (iNat x0) []) (iNat x1) (0, 0, 0, 0)).2.2.2))) (bSel (iEq (lGet (lGet x.2 (iNat x0) []) (iNat x1) (0, 0, 0, 0)).1 1) (bOr (iEq x0 0) (bAnd (iNe (lGet (lGet x.2 (iNat x0) []) (iNat x1) (0, 0, 0, 0)).1 9) (iGe (lGet (lGet x.2 (iNat x0) []) (iNat x1) (0, 0, 0, 0)).2.2.2 (lLen x.2)))) (bAnd (iNe (lGet (lGet x.2 (iNat x0) []) (iNat x1) (0, 0, 0, 0)).1 9) (iGe (lGet (lGet x.2 (iNat x0) []) (iNat x1) (0, 0, 0, 0)).2.2.2 (lLen x.2)))))))) (fun (x1 : Int) => (iAdd Go.IntKind.i64 x1 1)) 0) (lLen (lGet x.2 (iNat x0) []))))))) (fun (x0 : Int) => (iAdd Go.IntKind.i64 x0 1)) 0) (lLen x.2)) = true → True) ∧ ((iLt (loopV (fun (x0 : Int) => (bAnd (iLt x0 (lLen x.2)) (bAnd (bNot (iNe (lLen (lGet x.2 (iNat x0) [])) x.1)) (bNot (iLt (loopV (fun (x1 : Int) => (bAnd (iLt x1 (lLen (lGet x.2 (iNat x0) []))) (bNot (bOr (bNot (v_spec_IsAction ((lGet (lGet x.2 (iNat x0) []) (iNat x1) (0, 0, 0, 0)).1, (lGet (lGet x.2 (iNat x0) []) (iNat x1) (0, 0, 0, 0)).2.1, (lGet (lGet x.2 (iNat x0) []) (iNat x1) (0, 0, 0, 0)).2.2.1, (lGet (lGet x.2 (iNat x0) []) (iNat x1) (0, 0, 0, 0)).2.2.2))) (bSel (iEq (lGet (lGet x.2 (iNat x0) []) (iNat x1) (0, 0, 0, 0)).1 1) (bOr (iEq x0 0) (bAnd (iNe (lGet (lGet x.2 (iNat x0) []) (iNat x1) (0, 0, 0, 0)).1 9) (iGe (lGet (lGet x.2 (iNat x0) []) (iNat x1) (0, 0, 0, 0)).2.2.2 (lLen x.2)))) (bAnd (iNe (lGet (lGet x.2 (iNat x0) []) (iNat x1) (0, 0, 0, 0)).1 9) (iGe (lGet (lGet x.2 (iNat x0) []) (iNat x1) (0, 0, 0, 0)).2.2.2 (lLen x.2)))))))) (fun (x1 : Int) => (iAdd Go.IntKind.i64 x1 1)) 0) (lLen (lGet x.2 (iNat x0) []))))))) (fun (x0 : Int) => (iAdd Go.IntKind.i64 x0 1)) 0) (lLen x.2)) = false → ((ok_spec_l1In (x.1, 1, 32)) ∧ (((v_spec_l1In (x.1, 1, 32)) = true → (ok_spec_l1In ((lLen x.2), 1, 4))) ∧ ((v_spec_l1In (x.1, 1, 32)) = false → True)))))) := (ou_spec_IsKeymap x).trans (by kernel_rfl)
theorem ve_impl_IsKeymap (x : Int × (List (List (Int × Int × Int × Int)))) : v_impl_IsKeymap x = (bAnd (bNot (bOr (iLt x.1 1) (bOr (iGt x.1 32) (bOr (iLt (lLen x.2) 1) (iGt (lLen x.2) 4))))) (bNot (iLt (loopV (fun (x0 : Int) => (bAnd (iLt x0 (lLen x.2)) (bAnd (bNot (iNe (lLen (lGet x.2 (iNat x0) [])) x.1)) (bNot (iLt (loopV (fun (x1 : Int) => (bAnd (iLt x1 (lLen (lGet x.2 (iNat x0) []))) (bNot (bOr (bNot (v_impl_IsAction ((lGet (lGet x.2 (iNat x0) []) (iNat x1) (0, 0, 0, 0)).1, (lGet (lGet x.2 (iNat x0) []) (iNat x1) (0, 0, 0, 0)).2.1, (lGet (lGet x.2 (iNat x0) []) (iNat x1) (0, 0, 0, 0)).2.2.1, (lGet (lGet x.2 (iNat x0) []) (iNat x1) (0, 0, 0, 0)).2.2.2))) (bSel (iEq x0 0) (bOr (iEq (lGet (lGet x.2 (iNat x0) []) (iNat x1) (0, 0, 0, 0)).1 1) (bAnd (iNe (lGet (lGet x.2 (iNat x0) []) (iNat x1) (0, 0, 0, 0)).1 9) (iGe (lGet (lGet x.2 (iNat x0) []) (iNat x1) (0, 0, 0, 0)).2.2.2 (lLen x.2)))) (bAnd (iNe (lGet (lGet x.2 (iNat x0) []) (iNat x1) (0, 0, 0, 0)).1 9) (iGe (lGet (lGet x.2 (iNat x0) []) (iNat x1) (0, 0, 0, 0)).2.2.2 (lLen x.2)))))))) (fun (x1 : Int) => (iAdd Go.IntKind.i64 x1 1)) 0) (lLen (lGet x.2 (iNat x0) []))))))) (fun (x0 : Int) => (iAdd Go.IntKind.i64 x0 1)) 0) (lLen x.2)))) := (vu_impl_IsKeymap x).trans (by kernel_rfl)
theorem oe_impl_IsKeymap (x : Int × (List (List (Int × Int × Int × Int)))) : ok_impl_IsKeymap x = (((bOr (iLt x.1 1) (bOr (iGt x.1 32) (bOr (iLt (lLen x.2) 1) (iGt (lLen x.2) 4)))) = true → True) ∧ ((bOr (iLt x.1 1) (bOr (iGt x.1 32) (bOr (iLt (lLen x.2) 1) (iGt (lLen x.2) 4)))) = false → (LoopOk (fun (x0 : Int) => (bAnd (iLt x0 (lLen x.2)) (bAnd (bNot (iNe (lLen (lGet x.2 (iNat x0) [])) x.1)) (bNot (iLt (loopV (fun (x1 : Int) => (bAnd (iLt x1 (lLen (lGet x.2 (iNat x0) []))) (bNot (bOr (bNot (v_impl_IsAction ((lGet (lGet x.2 (iNat x0) []) (iNat x1) (0, 0, 0, 0)).1, (lGet (lGet x.2 (iNat x0) []) (iNat x1) (0, 0, 0, 0)).2.1, (lGet (lGet x.2 (iNat x0) []) (iNat x1) (0, 0, 0, 0)).2.2.1, (lGet (lGet x.2 (iNat x0) []) (iNat x1) (0, 0, 0, 0)).2.2.2))) (bSel (iEq x0 0) (bOr (iEq (lGet (lGet x.2 (iNat x0) []) (iNat x1) (0, 0, 0, 0)).1 1) (bAnd (iNe (lGet (lGet x.2 (iNat x0) []) (iNat x1) (0, 0, 0, 0)).1 9) (iGe (lGet (lGet x.2 (iNat x0) []) (iNat x1) (0, 0, 0, 0)).2.2.2 (lLen x.2)))) (bAnd (iNe (lGet (lGet x.2 (iNat x0) []) (iNat x1) (0, 0, 0, 0)).1 9) (iGe (lGet (lGet x.2 (iNat x0) []) (iNat x1) (0, 0, 0, 0)).2.2.2 (lLen x.2)))))))) (fun (x1 : Int) => (iAdd Go.IntKind.i64 x1 1)) 0) (lLen (lGet x.2 (iNat x0) []))))))) (fun (x0 : Int) => (iAdd Go.IntKind.i64 x0 1)) (fun (x0 : Int) => (((iLt x0 (lLen x.2)) = true → ((((0 : Int) ≤ x0) ∧ (x0 < (((List.length x.2) : Int)))) ∧ (((iNat x0) < (List.length x.2)) ∧ (((iNe (lLen (lGet x.2 (iNat x0) [])) x.1) = true → True) ∧ ((iNe (lLen (lGet x.2 (iNat x0) [])) x.1) = false → (LoopOk (fun (x1 : Int) => (bAnd (iLt x1 (lLen (lGet x.2 (iNat x0) []))) (bNot (bOr (bNot (v_impl_IsAction ((lGet (lGet x.2 (iNat x0) []) (iNat x1) (0, 0, 0, 0)).1, (lGet (lGet x.2 (iNat x0) []) (iNat x1) (0, 0, 0, 0)).2.1, (lGet (lGet x.2 (iNat x0) []) (iNat x1) (0, 0, 0, 0)).2.2.1, (lGet (lGet x.2 (iNat x0) []) (iNat x1) (0, 0, 0, 0)).2.2.2))) (bSel (iEq x0 0) (bOr (iEq (lGet (lGet x.2 (iNat x0) []) (iNat x1) (0, 0, 0, 0)).1 1) (bAnd (iNe (lGet (lGet x.2 (iNat x0) []) (iNat x1) (0, 0, 0, 0)).1 9) (iGe (lGet (lGet x.2 (iNat x0) []) (iNat x1) (0, 0, 0, 0)).2.2.2 (lLen x.2)))) (bAnd (iNe (lGet (lGet x.2 (iNat x0) []) (iNat x1) (0, 0, 0, 0)).1 9) (iGe (lGet (lGet x.2 (iNat x0) []) (iNat x1) (0, 0, 0, 0)).2.2.2 (lLen x.2)))))))) (fun (x1 : Int) => (iAdd Go.IntKind.i64 x1 1)) (fun (x1 : Int) => (((iLt x1 (lLen (lGet x.2 (iNat x0) []))) = true → ((((0 : Int) ≤ x1) ∧ (x1 < (((List.length (lGet x.2 (iNat x0) [])) : Int)))) ∧ (((iNat x1) < (List.length (lGet x.2 (iNat x0) []))) ∧ (ok_impl_IsAction ((lGet (lGet x.2 (iNat x0) []) (iNat x1) (0, 0, 0, 0)).1, (lGet (lGet x.2 (iNat x0) []) (iNat x1) (0, 0, 0, 0)).2.1, (lGet (lGet x.2 (iNat x0) []) (iNat x1) (0, 0, 0, 0)).2.2.1, (lGet (lGet x.2 (iNat x0) []) (iNat x1) (0, 0, 0, 0)).2.2.2))))) ∧ ((iLt x1 (lLen (lGet x.2 (iNat x0) []))) = false → True))) 0)))))) ∧ ((iLt x0 (lLen x.2)) = false → True))) 0))) := (ou_impl_IsKeymap x).trans (by kernel_rfl)
theorem ve_laws_eqActionS (x : (List (Int × Int × Int × Int)) × (List (Int × Int × Int × Int))) : v_laws_eqActionS x = (bAnd (bNot (iNe (lLen x.1) (lLen x.2))) (bNot (iLt (loopV (fun (x0 : Int) => (bAnd (iLt x0 (lLen x.1)) (bNot (bNot (v_laws_eqAction (((lGet x.1 (iNat x0) (0, 0, 0, 0)).1, (lGet x.1 (iNat x0) (0, 0, 0, 0)).2.1, (lGet x.1 (iNat x0) (0, 0, 0, 0)).2.2.1, (lGet x.1 (iNat x0) (0, 0, 0, 0)).2.2.2), (lGet x.2 (iNat x0) (0, 0, 0, 0)).1, (lGet x.2 (iNat x0) (0, 0, 0, 0)).2.1, (lGet x.2 (iNat x0) (0, 0, 0, 0)).2.2.1, (lGet x.2 (iNat x0) (0, 0, 0, 0)).2.2.2)))))) (fun (x0 : Int) => (iAdd Go.IntKind.i64 x0 1)) 0) (lLen x.1)))) := (vu_laws_eqActionS x).trans (by kernel_rfl)
theorem oe_laws_eqActionS (x : (List (Int × Int × Int × Int)) × (List (Int × Int × Int × Int))) : ok_laws_eqActionS x = (((iNe (lLen x.1) (lLen x.2)) = true → True) ∧ ((iNe (lLen x.1) (lLen x.2)) = false → (LoopOk (fun (x0 : Int) => (bAnd (iLt x0 (lLen x.1)) (bNot (bNot (v_laws_eqAction (((lGet x.1 (iNat x0) (0, 0, 0, 0)).1, (lGet x.1 (iNat x0) (0, 0, 0, 0)).2.1, (lGet x.1 (iNat x0) (0, 0, 0, 0)).2.2.1, (lGet x.1 (iNat x0) (0, 0, 0, 0)).2.2.2), (lGet x.2 (iNat x0) (0, 0, 0, 0)).1, (lGet x.2 (iNat x0) (0, 0, 0, 0)).2.1, (lGet x.2 (iNat x0) (0, 0, 0, 0)).2.2.1, (lGet x.2 (iNat x0) (0, 0, 0, 0)).2.2.2)))))) (fun (x0 : Int) => (iAdd Go.IntKind.i64 x0 1)) (fun (x0 : Int) => (((iLt x0 (lLen x.1)) = true → ((((0 : Int) ≤ x0) ∧ (x0 < (((List.length x.1) : Int)))) ∧ (((iNat x0) < (List.length x.1)) ∧ ((((0 : Int) ≤ x0) ∧ (x0 < (((List.length x.2) : Int)))) ∧ (((iNat x0) < (List.length x.2)) ∧ (ok_laws_eqAction (((lGet x.1 (iNat x0) (0, 0, 0, 0)).1, (lGet x.1 (iNat x0) (0, 0, 0, 0)).2.1, (lGet x.1 (iNat x0) (0, 0, 0, 0)).2.2.1, (lGet x.1 (iNat x0) (0, 0, 0, 0)).2.2.2), (lGet x.2 (iNat x0) (0, 0, 0, 0)).1, (lGet x.2 (iNat x0) (0, 0, 0, 0)).2.1, (lGet x.2 (iNat x0) (0, 0, 0, 0)).2.2.1, (lGet x.2 (iNat x0) (0, 0, 0, 0)).2.2.2))))))) ∧ ((iLt x0 (lLen x.1)) = false → True))) 0))) := (ou_laws_eqActionS x).trans (by kernel_rfl)
theorem ve_laws_eqActionSS (x : (List (List (Int × Int × Int × Int))) × (List (List (Int × Int × Int × Int)))) : v_laws_eqActionSS x = (bAnd (bNot (iNe (lLen x.1) (lLen x.2))) (bNot (iLt (loopV (fun (x0 : Int) => (bAnd (iLt x0 (lLen x.1)) (bNot (bNot (v_laws_eqActionS ((lGet x.1 (iNat x0) []), (lGet x.2 (iNat x0) []))))))) (fun (x0 : Int) => (iAdd Go.IntKind.i64 x0 1)) 0) (lLen x.1)))) := (vu_laws_eqActionSS x).trans (by kernel_rfl)
theorem oe_laws_eqActionSS (x : (List (List (Int × Int × Int × Int))) × (List (List (Int × Int × Int × Int)))) : ok_laws_eqActionSS x = (((iNe (lLen x.1) (lLen x.2)) = true → True) ∧ ((iNe (lLen x.1) (lLen x.2)) = false → (LoopOk (fun (x0 : Int) => (bAnd (iLt x0 (lLen x.1)) (bNot (bNot (v_laws_eqActionS ((lGet x.1 (iNat x0) []), (lGet x.2 (iNat x0) []))))))) (fun (x0 : Int) => (iAdd Go.IntKind.i64 x0 1)) (fun (x0 : Int) => (((iLt x0 (lLen x.1)) = true → ((((0 : Int) ≤ x0) ∧ (x0 < (((List.length x.1) : Int)))) ∧ (((iNat x0) < (List.length x.1)) ∧ ((((0 : Int) ≤ x0) ∧ (x0 < (((List.length x.2) : Int)))) ∧ (((iNat x0) < (List.length x.2)) ∧ (ok_laws_eqActionS ((lGet x.1 (iNat x0) []), (lGet x.2 (iNat x0) [])))))))) ∧ ((iLt x0 (lLen x.1)) = false → True))) 0))) := (ou_laws_eqActionSS x).trans (by kernel_rfl)
theorem ve_laws_eqKeymap (x : (Int × (List (List (Int × Int × Int × Int)))) × (Int × (List (List (Int × Int × Int × Int))))) : v_laws_eqKeymap x = (bAnd (bNot (iNe x.1.1 x.2.1)) (bNot (bNot (v_laws_eqActionSS (x.1.2, x.2.2))))) := (vu_laws_eqKeymap x).trans (by kernel_rfl)
theorem oe_laws_eqKeymap (x : (Int × (List (List (Int × Int × Int × Int)))) × (Int × (List (List (Int × Int × Int × Int))))) : ok_laws_eqKeymap x = (((iNe x.1.1 x.2.1) = true → True) ∧ ((iNe x.1.1 x.2.1) = false → (ok_laws_eqActionSS (x.1.2, x.2.2)))) := (ou_laws_eqKeymap x).trans (by kernel_rfl)
end
def sm_ActionS (x : List (Int × Int × Int × Int)) : Prop := x.length ≤ 1048576 ∧ ∀ a ∈ x, sm_Action a
def sm_ActionSS (x : List (List (Int × Int × Int × Int))) : Prop := x.length ≤ 1048576 ∧ ∀ a ∈ x, sm_ActionS a
def sm_Keymap (x : Int × (List (List (Int × Int × Int × Int)))) : Prop := sm_ActionSS x.2 ∧ True
theorem eq_ActionS (a b : List (Int × Int × Int × Int)) (h : sm_ActionS a) : ok_laws_eqActionS (a, b) ∧ (v_laws_eqActionS (a, b) = true ↔ a = b) := by
  rw [oe_laws_eqActionS, ve_laws_eqActionS]
  obtain ⟨h1, h2⟩ := h
  have hY : ∀ i : Nat, i < a.length → ok_laws_eqAction (((lGet a i (0, 0, 0, 0)).1, (lGet a i (0, 0, 0, 0)).2.1, (lGet a i (0, 0, 0, 0)).2.2.1, (lGet a i (0, 0, 0, 0)).2.2.2), ((lGet b i (0, 0, 0, 0)).1, (lGet b i (0, 0, 0, 0)).2.1, (lGet b i (0, 0, 0, 0)).2.2.1, (lGet b i (0, 0, 0, 0)).2.2.2)) ∧ (v_laws_eqAction (((lGet a i (0, 0, 0, 0)).1, (lGet a i (0, 0, 0, 0)).2.1, (lGet a i (0, 0, 0, 0)).2.2.1, (lGet a i (0, 0, 0, 0)).2.2.2), ((lGet b i (0, 0, 0, 0)).1, (lGet b i (0, 0, 0, 0)).2.1, (lGet b i (0, 0, 0, 0)).2.2.1, (lGet b i (0, 0, 0, 0)).2.2.2)) = true ↔ a.getD i (0, 0, 0, 0) = b.getD i (0, 0, 0, 0)) := fun i hi => by
    have := eq_Action (a.getD i (0, 0, 0, 0)) (b.getD i (0, 0, 0, 0)) (h2 _ (getD_mem a i (0, 0, 0, 0) hi))
    rw [lGet_eq, lGet_eq]; exact this
  by_cases hl : a.length = b.length
  · refine ⟨⟨fun _ => trivial, fun _ => eq_ok a b (0, 0, 0, 0) (fun i => bNot (v_laws_eqAction (((lGet a i (0, 0, 0, 0)).1, (lGet a i (0, 0, 0, 0)).2.1, (lGet a i (0, 0, 0, 0)).2.2.1, (lGet a i (0, 0, 0, 0)).2.2.2), ((lGet b i (0, 0, 0, 0)).1, (lGet b i (0, 0, 0, 0)).2.1, (lGet b i (0, 0, 0, 0)).2.2.1, (lGet b i (0, 0, 0, 0)).2.2.2)))) hl (fun i hi => by simp only [bNot_eq, Bool.not_eq_false', (hY i hi).2]) (by omega) (fun i hi => by simp only [bAnd_eq, iLt_eq, lLen_eq, iNat_eq, bNot_eq, Int.toNat_natCast, Int.ofNat_lt]) (fun i hi => rfl) (fun i hi => ?_)⟩, ?_⟩
    · simp only [iLt_eq, lLen_eq, iNat_eq, decide_eq_true_eq, Int.toNat_natCast]
      exact ⟨fun hh => ⟨by omega, by omega, by omega, by omega, (hY i (by omega)).1⟩, fun _ => trivial⟩
    · have hv := eq_v (c := fun i : Int => bAnd (iLt i (lLen a)) (bNot ((fun i => bNot (v_laws_eqAction (((lGet a i (0, 0, 0, 0)).1, (lGet a i (0, 0, 0, 0)).2.1, (lGet a i (0, 0, 0, 0)).2.2.1, (lGet a i (0, 0, 0, 0)).2.2.2), ((lGet b i (0, 0, 0, 0)).1, (lGet b i (0, 0, 0, 0)).2.1, (lGet b i (0, 0, 0, 0)).2.2.1, (lGet b i (0, 0, 0, 0)).2.2.2)))) i.toNat))) (f := fun i => iAdd .i64 i 1) a b (0, 0, 0, 0) (fun i => bNot (v_laws_eqAction (((lGet a i (0, 0, 0, 0)).1, (lGet a i (0, 0, 0, 0)).2.1, (lGet a i (0, 0, 0, 0)).2.2.1, (lGet a i (0, 0, 0, 0)).2.2.2), ((lGet b i (0, 0, 0, 0)).1, (lGet b i (0, 0, 0, 0)).2.1, (lGet b i (0, 0, 0, 0)).2.2.1, (lGet b i (0, 0, 0, 0)).2.2.2)))) hl (fun i hi => by simp only [bNot_eq, Bool.not_eq_false', (hY i hi).2]) (by omega) (fun i hi => by simp only [bAnd_eq, iLt_eq, lLen_eq, bNot_eq, Int.toNat_natCast, Int.ofNat_lt]) (fun i hi => rfl)
      have e1 : bNot (iNe (lLen a) (lLen b)) = true := by rw [bNot_eq, iNe_eq, lLen_eq, lLen_eq, hl]; simp
      rw [e1, bAnd_eq true, Bool.true_and, bNot_eq (iLt _ (lLen a)), iLt_eq _ (lLen a)]
      simp only [← iNat_eq, lLen_eq] at hv ⊢
      simp only [Bool.not_eq_true', decide_eq_false_iff_not]
      rw [hv]; simp
  · have e1 : bNot (iNe (lLen a) (lLen b)) = false := by rw [bNot_eq, iNe_eq, lLen_eq, lLen_eq]; simp; omega
    refine ⟨⟨fun _ => trivial, fun h => ?_⟩, ?_⟩
    · rw [bNot_eq] at e1; rw [h] at e1; cases e1
    · rw [e1, bAnd_eq, Bool.false_and]; constructor
      · intro h; cases h
      · intro e; subst e; exact absurd rfl hl
theorem eq_ActionSS (a b : List (List (Int × Int × Int × Int))) (h : sm_ActionSS a) : ok_laws_eqActionSS (a, b) ∧ (v_laws_eqActionSS (a, b) = true ↔ a = b) := by
  rw [oe_laws_eqActionSS, ve_laws_eqActionSS]
  obtain ⟨h1, h2⟩ := h
  have hY : ∀ i : Nat, i < a.length → ok_laws_eqActionS ((lGet a i []), (lGet b i [])) ∧ (v_laws_eqActionS ((lGet a i []), (lGet b i [])) = true ↔ a.getD i [] = b.getD i []) := fun i hi => by
    have := eq_ActionS (a.getD i []) (b.getD i []) (h2 _ (getD_mem a i [] hi))
    rw [lGet_eq, lGet_eq]; exact this
  by_cases hl : a.length = b.length
  · refine ⟨⟨fun _ => trivial, fun _ => eq_ok a b [] (fun i => bNot (v_laws_eqActionS ((lGet a i []), (lGet b i [])))) hl (fun i hi => by simp only [bNot_eq, Bool.not_eq_false', (hY i hi).2]) (by omega) (fun i hi => by simp only [bAnd_eq, iLt_eq, lLen_eq, iNat_eq, bNot_eq, Int.toNat_natCast, Int.ofNat_lt]) (fun i hi => rfl) (fun i hi => ?_)⟩, ?_⟩
    · simp only [iLt_eq, lLen_eq, iNat_eq, decide_eq_true_eq, Int.toNat_natCast]
      exact ⟨fun hh => ⟨by omega, by omega, by omega, by omega, (hY i (by omega)).1⟩, fun _ => trivial⟩
    · have hv := eq_v (c := fun i : Int => bAnd (iLt i (lLen a)) (bNot ((fun i => bNot (v_laws_eqActionS ((lGet a i []), (lGet b i [])))) i.toNat))) (f := fun i => iAdd .i64 i 1) a b [] (fun i => bNot (v_laws_eqActionS ((lGet a i []), (lGet b i [])))) hl (fun i hi => by simp only [bNot_eq, Bool.not_eq_false', (hY i hi).2]) (by omega) (fun i hi => by simp only [bAnd_eq, iLt_eq, lLen_eq, bNot_eq, Int.toNat_natCast, Int.ofNat_lt]) (fun i hi => rfl)
      have e1 : bNot (iNe (lLen a) (lLen b)) = true := by rw [bNot_eq, iNe_eq, lLen_eq, lLen_eq, hl]; simp
      rw [e1, bAnd_eq true, Bool.true_and, bNot_eq (iLt _ (lLen a)), iLt_eq _ (lLen a)]
      simp only [← iNat_eq, lLen_eq] at hv ⊢
      simp only [Bool.not_eq_true', decide_eq_false_iff_not]
      rw [hv]; simp
  · have e1 : bNot (iNe (lLen a) (lLen b)) = false := by rw [bNot_eq, iNe_eq, lLen_eq, lLen_eq]; simp; omega
    refine ⟨⟨fun _ => trivial, fun h => ?_⟩, ?_⟩
    · rw [bNot_eq] at e1; rw [h] at e1; cases e1
    · rw [e1, bAnd_eq, Bool.false_and]; constructor
      · intro h; cases h
      · intro e; subst e; exact absurd rfl hl
theorem eq_Keymap (a b : Int × (List (List (Int × Int × Int × Int)))) (h : sm_Keymap a) : ok_laws_eqKeymap (a, b) ∧ (v_laws_eqKeymap (a, b) = true ↔ a = b) := by
  obtain ⟨a0, a1⟩ := a
  obtain ⟨b0, b1⟩ := b
  have k0 := eq_ActionSS a1 b1 (by unfold sm_Keymap at h; exact h.1)
  rw [oe_laws_eqKeymap, ve_laws_eqKeymap]
  refine ⟨by simp [k0.1, k0.2], ?_⟩
  simp only [k0.1, k0.2, bNot_eq, bAnd_eq, bIff_eq, iNe_eq, Bool.and_eq_true, Bool.not_not, decide_eq_true_eq, Prod.mk.injEq, beq_iff_eq]
  try (constructor <;> intro h <;> simp_all)
theorem isKeymap_eq (x : Int × List (List (Int × Int × Int × Int))) : v_spec_IsKeymap x = v_impl_IsKeymap x := by
  rw [ve_spec_IsKeymap, ve_impl_IsKeymap, l1In_eq, l1In_eq]
  have inner : ∀ (i a n : Int) (A B : Bool), bNot (bOr A (bSel (iEq a 1) (bOr (iEq i 0) B) B)) = bNot (bOr A (bSel (iEq i 0) (bOr (iEq a 1) B) B)) := by
    intro i a n A B
    simp only [bNot_eq, bOr_eq, bSel_eq, iEq_eq]
    by_cases h1 : a = 1 <;> by_cases h2 : i = 0 <;> simp [h1, h2]
  simp only [isAction_eq, fun i a A B => inner i a 0 A B]
  generalize bNot (iLt (loopV _ _ _) (lLen x.2)) = L
  rw [Bool.eq_iff_iff]
  simp only [bAnd_eq, bNot_eq, bOr_eq, iLt_eq, iGt_eq, lLen_eq, Bool.and_eq_true, Bool.or_eq_true, Bool.not_eq_true', Bool.not_eq_false', Bool.and_eq_false_iff, Bool.or_eq_false_iff, decide_eq_true_eq, decide_eq_false_iff_not, Bool.not_eq_true, Bool.not_eq_false, beq_iff_eq, beq_eq_false_iff_ne]
  cases L <;> simp <;> omega
theorem ok_IsKeymap_t (x : Int × List (List (Int × Int × Int × Int))) (h : sm_Keymap x) : ok_spec_IsKeymap x ∧ ok_impl_IsKeymap x := by
  obtain ⟨k, x⟩ := x
  have h : sm_ActionSS x := h.1
  rw [oe_spec_IsKeymap, oe_impl_IsKeymap]
  have inl : ∀ i : Int, 0 ≤ i → i < x.length → (lGet x (iNat i) []).length ≤ 1048576 := fun i h0 hi => by
    rw [lGet_eq, iNat_eq]; exact (h.2 _ (getD_mem x i.toNat [] (by omega))).1
  refine ⟨⟨?_, fun _ => trivial, fun _ => ⟨ok_l1In _, fun _ => ok_l1In _, fun _ => trivial⟩⟩, fun _ => trivial, fun _ => ?_⟩
  all_goals
    refine cnt_ok (fun st => st) x.length (by have := h.1; omega) (fun st _ _ hc => ?_) (fun st => rfl) (fun st h0 h1 => ?_) (by simp) (by simp)
    · rw [bAnd_eq, iLt_eq st, lLen_eq, Bool.and_eq_true, decide_eq_true_eq] at hc
      exact hc.1
    · refine ⟨fun hlt => ?_, fun _ => trivial⟩
      rw [iLt_eq, lLen_eq, decide_eq_true_eq] at hlt
      have hlt : st < (x.length : Int) := hlt
      have h3 : iNat st < x.length := by rw [iNat_eq]; omega
      have hl := inl st h0 hlt
      refine ⟨⟨h0, hlt⟩, h3, fun _ => trivial, fun _ => ?_⟩
      refine cnt_ok (fun st => st) (lGet x (iNat st) []).length (by omega) (fun j _ _ hc => ?_) (fun st => rfl) (fun j j0 j1 => ?_) (by simp) (by simp)
      · rw [bAnd_eq, iLt_eq j, lLen_eq, Bool.and_eq_true, decide_eq_true_eq] at hc
        exact hc.1
      · have fin : iLt j (lLen (lGet x (iNat st) [])) = true → j < ((lGet x (iNat st) []).length : Int) ∧ iNat j < (lGet x (iNat st) []).length := fun hj => by
          rw [iLt_eq, lLen_eq, decide_eq_true_eq] at hj
          exact ⟨hj, by rw [iNat_eq]; omega⟩
        first
          | exact ⟨⟨h0, hlt⟩, h3, fun hj => ⟨⟨h0, hlt⟩, h3, ⟨j0, (fin hj).1⟩, (fin hj).2, ok_spec_IsAction_t _⟩, fun _ => trivial⟩
          | exact ⟨fun hj => ⟨⟨j0, (fin hj).1⟩, (fin hj).2, ok_impl_IsAction_t _⟩, fun _ => trivial⟩
structure MapOk (k : Int) (x : List (List (Int × Int × Int × Int))) : Prop where
  k1 : 1 ≤ k
  k2 : k ≤ 32
  l1 : 1 ≤ x.length
  l2 : x.length ≤ 4
  row : ∀ i : Nat, i < x.length → ((x.getD i []).length : Int) = k
  act : ∀ i j : Nat, i < x.length → j < (x.getD i []).length → v_impl_IsAction ((x.getD i []).getD j (0, 0, 0, 0)) = true ∧ (i = 0 → ((x.getD i []).getD j (0, 0, 0, 0)).1 ≠ 1) ∧ (((x.getD i []).getD j (0, 0, 0, 0)).1 ≠ 9 → ((x.getD i []).getD j (0, 0, 0, 0)).2.2.2 < x.length)
section
set_option maxRecDepth 8000
noncomputable def c_laws_markByteS : ACode :=
  (.seq (.region [⟨0, some 4, .mv (.c (.int .i64 0)), none, []⟩])
  (.seq (.seq (.region [⟨0, some 5, .mv (.c (.int .i64 0)), none, []⟩])
  (.block 0 (.loop [0, 1, 5] (.seq (.seq (.region [⟨0, some 6, .mv (.t 5), none, []⟩,
 ⟨1, some 7, .mv (.t 0), none, []⟩,
 ⟨2, some 8, .len (.t 7), none, []⟩,
 ⟨3, some 9, .bin .lss (.t 6) (.t 8), none, []⟩])
  (.cond (.t 9) .skip (.exit 0)))
  (.seq (.block 1 (.seq (.region [⟨0, some 12, .mv (.t 0), none, []⟩,
 ⟨1, some 13, .mv (.t 5), none, []⟩,
 ⟨2, some 14, .mv (.t 1), none, []⟩,
 ⟨3, some 15, .conv .u8 (.t 14), none, []⟩,
 ⟨4, some 16, .indexA 1 (.t 12) (.t 13), none, []⟩,
 ⟨5, none, .storeH 1 (.t 16) (.t 15), none, []⟩])
  (.region [⟨0, some 17, .mv (.t 1), none, []⟩,
 ⟨1, some 18, .bin .add (.t 17) (.c (.int .i64 1)), none, []⟩,
 ⟨2, some 1, .mv (.t 18), none, []⟩])))
  (.region [⟨0, some 10, .mv (.t 5), none, []⟩,
 ⟨1, some 11, .bin .add (.t 10) (.c (.int .i64 1)), none, []⟩,
 ⟨2, some 5, .mv (.t 11), none, []⟩]))))))
  (.seq (.region [⟨0, some 19, .mv (.t 1), none, []⟩,
 ⟨1, some 4, .mv (.t 19), none, []⟩])
  .ret)))
noncomputable def f_laws_markByteS : AFun := ⟨2, 20, 0, false, [.tmp 4], c_laws_markByteS⟩
@[irreducible] noncomputable def s_laws_markByteS : CallSem := funSem f_laws_markByteS
@[irreducible] noncomputable def mg_laws_markByteS (x : List (Int)) (m : Int) : (List (Int)) × Int := (shut fun (x : List (Int)) (m : Int) => mkL (RT.mkI (.one (.int .u8))) x m).1 x m
@[irreducible] noncomputable def mok_laws_markByteS (x : List (Int)) : Prop := (shut fun (x : List (Int)) => CT.wl (.sl (.one (.int .u8))) x).1 x
theorem mgu_laws_markByteS : mg_laws_markByteS = fun x m => mkL (RT.mkI (.one (.int .u8))) x m := by unfold mg_laws_markByteS; exact (shut _).2
theorem mou_laws_markByteS : mok_laws_markByteS = fun x => CT.wl (.sl (.one (.int .u8))) x := by unfold mok_laws_markByteS; exact (shut _).2
theorem sl_laws_markByteS : SlC s_laws_markByteS (.one (.int .u8)) := by
  rintro h ω hd p l u m Q hok hinj hM hQ
  have hn := hM.len
  have hlb : l.length ≤ 9223372036854775807 := hok.1
  unfold s_laws_markByteS
  refine fun_intro rfl ?_
  unfold c_laws_markByteS
  repeat' (first | (simp only [go_sem, reduceIte, reduceCtorEq, Nat.reduceAdd, Nat.reduceBEq, Int.reduceLT, Int.reduceLE, Int.reduceGT, Int.reduceGE, Int.reduceBEq, Int.reduceBNe, Nat.reduceEqDiff, Nat.reduceLeDiff, Nat.reduceLT, hn]) | (refine aops_part rfl (fun hb => ?_) (fun hb => ?_) <;> simp only [hb, go_sem, reduceIte, reduceCtorEq, Nat.reduceAdd, Nat.reduceBEq, Int.reduceLT, Int.reduceLE, Int.reduceGT, Int.reduceGE, Int.reduceBEq, Int.reduceBNe, Nat.reduceEqDiff, Nat.reduceLeDiff, Nat.reduceLT, hn]) | (refine awp_part rfl (fun hb => ?_) (fun hb => ?_) <;> simp only [hb, go_sem, reduceIte, reduceCtorEq, Nat.reduceAdd, Nat.reduceBEq, Int.reduceLT, Int.reduceLE, Int.reduceGT, Int.reduceGE, Int.reduceBEq, Int.reduceBNe, Nat.reduceEqDiff, Nat.reduceLeDiff, Nat.reduceLT, hn]) | (refine wop_pick_part rfl (fun hb => ?_) (fun hb => ?_) <;> simp only [hb, go_sem, reduceIte, reduceCtorEq, Nat.reduceAdd, Nat.reduceBEq, Int.reduceLT, Int.reduceLE, Int.reduceGT, Int.reduceGE, Int.reduceBEq, Int.reduceBNe, Nat.reduceEqDiff, Nat.reduceLeDiff, Nat.reduceLT, hn]))
  refine loop_up l.length (fun i st => ∃ h', st = ⟨[u, .int .i64 (mkPre (RT.mkI (.one (.int .u8))) l m i).2, .undef, .undef, .undef, .int .i64 (i : Int)] ++ reps 14, [], h'⟩ ∧ Only (Under ω hd p) h h' ∧ MS h' ω hd p (.one (.int .u8)) (mkPre (RT.mkI (.one (.int .u8))) l m i).1 u) ?_ ?_
  · refine ⟨h, ?_, Only.refl _ _, hM⟩
    simp only [mkPre_zero, keep, Int.natCast_zero]
    rfl
  · rintro i st next hi ⟨h1, rfl, hO, hR⟩ hnx
    by_cases hlt : i < l.length
    · have hc : decide ((i : Int) < (l.length : Int)) = true := decide_eq_true (by omega)
      have hw : IntKind.i64.wrap ((i : Int) + 1) = ((i + 1 : Nat) : Int) := by rw [wrapI (by omega)]; omega
      obtain ⟨b, hub⟩ := hR.slice (by rw [mkPre_len]; omega)
      rw [mkPre_len] at hub
      subst hub
      cases hL : mkPre (RT.mkI (.one (.int .u8))) l m i with
      | mk L k0 =>
      rw [hL] at hR
      obtain ⟨hLl, hs, hx0⟩ := mkPre_step hlt hL
      have hiL : i < L.length := by omega
      have hwx := wl_get hok hlt
      rw [← hx0] at hwx
      have R0 := MS.frame hR hiL
      clear hx0
      generalize hx0 : List.getD L i (RT.dflt (.one (.int .u8))) = x0 at R0 hs hwx
      clear hx0
      have hx := idx_own (b := b) (w := 1) hlt (k := .i64)
      simp only
      obtain ⟨h2, s0, o0, R1⟩ := MS.st R0 hiL (off := 0) (by decide) (v := (.int .u8 (IntKind.u8.wrap k0))) rfl rfl (y := ((IntKind.u8.wrap k0) : RT.D (.one (.int .u8)))) rfl hinj []
      replace s0 : x_storeH [] h1 1 (.ptr b (i * 1)) (.int .u8 (IntKind.u8.wrap k0)) = some (.undef, [], h2) := s0
      repeat' (first | (simp only [go_sem, reduceIte, reduceCtorEq, Nat.reduceAdd, Nat.reduceBEq, Int.reduceLT, Int.reduceLE, Int.reduceGT, Int.reduceGE, Int.reduceBEq, Int.reduceBNe, Nat.reduceEqDiff, Nat.reduceLeDiff, Nat.reduceLT, hn, hc, hw, hx, s0]) | (refine aops_part rfl (fun hb => ?_) (fun hb => ?_) <;> simp only [hb, go_sem, reduceIte, reduceCtorEq, Nat.reduceAdd, Nat.reduceBEq, Int.reduceLT, Int.reduceLE, Int.reduceGT, Int.reduceGE, Int.reduceBEq, Int.reduceBNe, Nat.reduceEqDiff, Nat.reduceLeDiff, Nat.reduceLT, hn, hc, hw, hx, s0]) | (refine awp_part rfl (fun hb => ?_) (fun hb => ?_) <;> simp only [hb, go_sem, reduceIte, reduceCtorEq, Nat.reduceAdd, Nat.reduceBEq, Int.reduceLT, Int.reduceLE, Int.reduceGT, Int.reduceGE, Int.reduceBEq, Int.reduceBNe, Nat.reduceEqDiff, Nat.reduceLeDiff, Nat.reduceLT, hn, hc, hw, hx, s0]) | (refine wop_pick_part rfl (fun hb => ?_) (fun hb => ?_) <;> simp only [hb, go_sem, reduceIte, reduceCtorEq, Nat.reduceAdd, Nat.reduceBEq, Int.reduceLT, Int.reduceLE, Int.reduceGT, Int.reduceGE, Int.reduceBEq, Int.reduceBNe, Nat.reduceEqDiff, Nat.reduceLeDiff, Nat.reduceLT, hn, hc, hw, hx, s0]))
      exact hnx _ hlt ⟨h2, by rw [hs]; rfl, (Only.trans hO o0), by rw [hs]; exact R1⟩
    · have hc : decide ((i : Int) < (l.length : Int)) = false := decide_eq_false (by omega)
      have hi' : i = l.length := by omega
      subst hi'
      repeat' (first | (simp only [go_sem, reduceIte, reduceCtorEq, Nat.reduceAdd, Nat.reduceBEq, Int.reduceLT, Int.reduceLE, Int.reduceGT, Int.reduceGE, Int.reduceBEq, Int.reduceBNe, Nat.reduceEqDiff, Nat.reduceLeDiff, Nat.reduceLT, hn, hc]) | (refine aops_part rfl (fun hb => ?_) (fun hb => ?_) <;> simp only [hb, go_sem, reduceIte, reduceCtorEq, Nat.reduceAdd, Nat.reduceBEq, Int.reduceLT, Int.reduceLE, Int.reduceGT, Int.reduceGE, Int.reduceBEq, Int.reduceBNe, Nat.reduceEqDiff, Nat.reduceLeDiff, Nat.reduceLT, hn, hc]) | (refine awp_part rfl (fun hb => ?_) (fun hb => ?_) <;> simp only [hb, go_sem, reduceIte, reduceCtorEq, Nat.reduceAdd, Nat.reduceBEq, Int.reduceLT, Int.reduceLE, Int.reduceGT, Int.reduceGE, Int.reduceBEq, Int.reduceBNe, Nat.reduceEqDiff, Nat.reduceLeDiff, Nat.reduceLT, hn, hc]) | (refine wop_pick_part rfl (fun hb => ?_) (fun hb => ?_) <;> simp only [hb, go_sem, reduceIte, reduceCtorEq, Nat.reduceAdd, Nat.reduceBEq, Int.reduceLT, Int.reduceLE, Int.reduceGT, Int.reduceGE, Int.reduceBEq, Int.reduceBNe, Nat.reduceEqDiff, Nat.reduceLeDiff, Nat.reduceLT, hn, hc]))
      have e := mkPre_all (RT.mkI (.one (.int .u8))) l m
      rw [e] at hR ⊢
      exact hQ h1 hO hR
theorem mk_laws_markByteS : SoundM s_laws_markByteS (slMk (.one (.int .u8))).P := SlC.sound sl_laws_markByteS
noncomputable def M_laws_markByteS : DMk := ⟨.one (.sl (.one (.int .u8))), false, mok_laws_markByteS, mg_laws_markByteS⟩
theorem smk_laws_markByteS : SoundM s_laws_markByteS (DMk.P M_laws_markByteS) := by unfold M_laws_markByteS; rw [mou_laws_markByteS, mgu_laws_markByteS]; exact mk_laws_markByteS
noncomputable def dc_laws_heldByteS : DCode :=
  (.seq [1, 0] (.region [oi 0 4 0])
  (.seq [1] (.seq [5, 1, 0] (.region [oi 0 5 0])
  (.block 0 (.loop [0, 1, 5] 1 (.seq [5, 1, 0] (.seq [9, 5, 1, 0] (.region [om 0 6 5,
 on 1 7 0,
 oa 2 8 (.len (.t 7)),
 oa 3 9 (.bin .lss (.t 6) (.t 8))])
  (.cond (.t 9) .skip (.exit 0)))
  (.seq [5, 1, 0] (.block 1 (.seq [5, 1, 0] (.seq [18, 5, 1, 0] (.region [on 0 12 0,
 om 1 13 5,
 oa 2 14 (.indexA 1 (.t 12) (.t 13)),
 oa 3 15 (.loadH none (.t 14)),
 om 4 16 1,
 oa 5 17 (.conv .u8 (.t 16)),
 oa 6 18 (.bin .neq (.t 15) (.t 17))])
  (.cond (.t 18) (.seq [4] (.region [oi 0 4 (-1)])
  .ret) .skip))
  (.region [om 0 19 1,
 oa 1 20 (.bin .add (.t 19) (.c (.int .i64 1))),
 om 2 1 20])))
  (.region [om 0 10 5,
 oa 1 11 (.bin .add (.t 10) (.c (.int .i64 1))),
 om 2 5 11]))))))
  (.seq [4] (.region [om 0 21 1,
 om 1 4 21])
  .ret)))
noncomputable def df_laws_heldByteS : DFun := ⟨2, 22, 0, true, [.tmp 4], dc_laws_heldByteS⟩
def h_laws_heldByteS : List HT := [.one .frz (.sl (.one (.int .u8))), .one .frz (.int .i64)]
def q_laws_heldByteS : QT := .one (.one .own (.int .i64))
@[irreducible] noncomputable def v_laws_heldByteS (x : List (Int) × Int) : Int := (shut fun x => fnV df_laws_heldByteS h_laws_heldByteS q_laws_heldByteS x).1 x
@[irreducible] noncomputable def ok_laws_heldByteS (x : List (Int) × Int) : Prop := (shut fun x => fnOk df_laws_heldByteS h_laws_heldByteS q_laws_heldByteS x).1 x
theorem vu_laws_heldByteS (x : List (Int) × Int) : v_laws_heldByteS x = fnV df_laws_heldByteS h_laws_heldByteS q_laws_heldByteS x := by unfold v_laws_heldByteS; exact congrFun (shut _).2 x
theorem ou_laws_heldByteS (x : List (Int) × Int) : ok_laws_heldByteS x = fnOk df_laws_heldByteS h_laws_heldByteS q_laws_heldByteS x := by unfold ok_laws_heldByteS; exact congrFun (shut _).2 x
end
section
set_option maxRecDepth 100000
theorem ve_laws_heldByteS (x : List (Int) × Int) : v_laws_heldByteS x = (bSel (iLt (loopV (fun (x0 : (Int × Int)) => (bAnd (iLt x0.2 (lLen x.1)) (bNot (iNe (lGet x.1 (iNat x0.2) 0) (iConv Go.IntKind.u8 x0.1))))) (fun (x0 : (Int × Int)) => ((iAdd Go.IntKind.i64 x0.1 1), (iAdd Go.IntKind.i64 x0.2 1))) (x.2, 0)).2 (lLen x.1)) (-1) (loopV (fun (x0 : (Int × Int)) => (bAnd (iLt x0.2 (lLen x.1)) (bNot (iNe (lGet x.1 (iNat x0.2) 0) (iConv Go.IntKind.u8 x0.1))))) (fun (x0 : (Int × Int)) => ((iAdd Go.IntKind.i64 x0.1 1), (iAdd Go.IntKind.i64 x0.2 1))) (x.2, 0)).1) := (vu_laws_heldByteS x).trans (by kernel_rfl)
theorem oe_laws_heldByteS (x : List (Int) × Int) : ok_laws_heldByteS x = (LoopOk (fun (x0 : (Int × Int)) => (bAnd (iLt x0.2 (lLen x.1)) (bNot (iNe (lGet x.1 (iNat x0.2) 0) (iConv Go.IntKind.u8 x0.1))))) (fun (x0 : (Int × Int)) => ((iAdd Go.IntKind.i64 x0.1 1), (iAdd Go.IntKind.i64 x0.2 1))) (fun (x0 : (Int × Int)) => (((iLt x0.2 (lLen x.1)) = true → ((((0 : Int) ≤ x0.2) ∧ (x0.2 < (((List.length x.1) : Int)))) ∧ ((iNat x0.2) < (List.length x.1)))) ∧ ((iLt x0.2 (lLen x.1)) = false → True))) (x.2, 0)) := (ou_laws_heldByteS x).trans (by kernel_rfl)
end
theorem iAdd_def (a : Int) : iAdd .i64 a 1 = IntKind.i64.wrap (a + 1) := by simp only [iAdd_u]
theorem iConv_def (k : IntKind) (a : Int) : iConv k a = k.wrap a := by simp only [iConv_u]
theorem iRem_def (a b : Int) : iRem a b = a.tmod b := by simp only [iRem_u]
section
variable {α : Type} {f : α → Int → α × Int} {l : List α} {c : Nat} {m : Int}
def UpF (f : α → Int → α × Int) (l : List α) (c : Nat) : Prop := ∀ a ∈ l, ∀ m : Int, 0 ≤ m → m + c ≤ 2305843009213693952 → m ≤ (f a m).2 ∧ (f a m).2 ≤ m + c
theorem mkPre_up (hf : UpF f l c) (h0 : 0 ≤ m) (h1 : m + (l.length * c : Nat) ≤ 2305843009213693952) (d : α) : ∀ i, i ≤ l.length → m ≤ (mkPre f l m i).2 ∧ (mkPre f l m i).2 ≤ m + (i * c : Nat) := by
  intro i
  induction i with
  | zero => intro _; rw [mkPre_zero]; simp
  | succ i ih =>
    intro hi
    obtain ⟨h2, h3⟩ := ih (by omega)
    rw [mkPre_succ f l m (by omega) d]
    have hm : l.getD i d ∈ l := getD_mem l i d (by omega)
    have hmul : (i + 1) * c ≤ l.length * c := Nat.mul_le_mul_right _ (by omega)
    rw [Nat.add_mul, Nat.one_mul] at hmul ⊢
    obtain ⟨h4, h5⟩ := hf _ hm (mkPre f l m i).2 (by omega) (by omega)
    exact ⟨by omega, by simp only; omega⟩
theorem mkL_up (hf : UpF f l c) (h0 : 0 ≤ m) (h1 : m + (l.length * c : Nat) ≤ 2305843009213693952) : m ≤ (mkL f l m).2 ∧ (mkL f l m).2 ≤ m + (l.length * c : Nat) := by
  cases l with
  | nil => simp [mkL]
  | cons a r =>
    have := mkPre_up hf h0 h1 a (a :: r).length (Nat.le_refl _)
    rw [mkPre_all] at this
    exact this
theorem mkL_getD (f : α → Int → α × Int) (l : List α) (m : Int) {i : Nat} (hi : i < l.length) (d : α) : (mkL f l m).1.getD i d = (f (l.getD i d) (mkPre f l m i).2).1 := by
  have h1 := mkPre_succ f l m hi d
  have h2 : (mkPre f l m (i + 1)).1.getD i d = (f (l.getD i d) (mkPre f l m i).2).1 := by
    rw [h1]
    simp only
    rw [List.getD_eq_getElem?_getD, List.getElem?_set_self (by rw [mkPre_len]; exact hi)]; rfl
  rw [← h2, ← mkPre_all f l m]
  have : ∀ k, i < k → k ≤ l.length → (mkPre f l m k).1.getD i d = (mkPre f l m (i + 1)).1.getD i d := by
    intro k
    induction k with
    | zero => intro h; omega
    | succ k ih =>
      intro h h'
      by_cases hk : k = i
      · rw [hk]
      · rw [← ih (by omega) (by omega), mkPre_succ f l m (by omega) d]
        simp only [List.getD_eq_getElem?_getD]
        rw [List.getElem?_set_ne hk]
  exact this _ hi (Nat.le_refl _)
theorem held_loop {C : Int × Int → Bool} {F : Int × Int → Int × Int} {p : Int × Int → Prop} (hl : l.length ≤ 1048576) (d : α)
    (hs : ∀ i, i < l.length → p ((mkPre f l m i).2, (i : Int)) ∧ C ((mkPre f l m i).2, (i : Int)) = true ∧ F ((mkPre f l m i).2, (i : Int)) = ((f (l.getD i d) (mkPre f l m i).2).2, iAdd .i64 (i : Int) 1))
    (he : p ((mkL f l m).2, (l.length : Int)) ∧ C ((mkL f l m).2, (l.length : Int)) = false) : LoopOk C F p (m, 0) ∧ loopV C F (m, 0) = ((mkL f l m).2, (l.length : Int)) := by
  have := loop_for (p := p) (c := C) (f := F) l.length (fun i => ((mkPre f l m i).2, (i : Int))) (x0 := (m, 0)) rfl (fun k hk => by
    obtain ⟨h1, h2, h3⟩ := hs k hk
    refine ⟨h1, h2, ?_⟩
    rw [h3, mkPre_succ f l m hk d, iAdd_i64 (by unfold In64; omega)]
    simp) (by rw [mkPre_all]; exact he)
  simp only [mkPre_all] at this
  exact this
end
theorem mul_step {i n c : Nat} (h : i < n) : i * c + c ≤ n * c := by
  have := Nat.mul_le_mul_right c (show i + 1 ≤ n from h)
  rw [Nat.add_mul, Nat.one_mul] at this
  exact this
theorem mul_lim {n m c B : Nat} (h : n ≤ m) (e : m * c = B) : n * c ≤ B := e ▸ Nat.mul_le_mul_right c h
theorem wrapP {m : Int} (h0 : 0 ≤ m) (h1 : m ≤ 2305843009213693960) : IntKind.i64.wrap (m + 1) = m + 1 := wrapI (by omega)
section
set_option maxRecDepth 20000
def mi_ByteS (a : Int) (k : Int) : (Int) × Int := ((IntKind.u8.wrap k), (IntKind.i64.wrap (k + 1)))
theorem mh_ByteS (x : List (Int)) (h : sm_ByteS x) (m : Int) (h0 : 0 ≤ m) (h1 : m + 1048576 ≤ 2305843009213693952) : mok_laws_markByteS x ∧ (m ≤ (mg_laws_markByteS x m).2 ∧ (mg_laws_markByteS x m).2 ≤ m + 1048576) ∧ ok_laws_heldByteS ((mg_laws_markByteS x m).1, m) ∧ v_laws_heldByteS ((mg_laws_markByteS x m).1, m) = (mg_laws_markByteS x m).2 := by
  have hl : x.length ≤ 1048576 := h
  have hU : UpF mi_ByteS x 1 := by
    intro a ha k k0 k1
    have e0 : IntKind.i64.wrap (k + 1) = k + 1 := wrapP (by omega) (by omega)
    have ee : (mi_ByteS a k).2 = (k + 1) := by simp only [mi_ByteS, e0]
    rw [ee]
    omega
  have hB : x.length * 1 ≤ 1048576 := mul_lim hl (by decide)
  have up := mkL_up (m := m) hU h0 (by omega)
  have hmg : mg_laws_markByteS x m = mkL mi_ByteS x m := by unfold mi_ByteS; rw [mgu_laws_markByteS]; rfl
  rw [hmg]
  have hL := mkL_len mi_ByteS x m
  have hg : ∀ i, i < x.length → (mkL mi_ByteS x m).1.getD i 0 = (mi_ByteS (x.getD i 0) (mkPre mi_ByteS x m i).2).1 := fun i hi => mkL_getD _ _ _ hi _
  have hok : mok_laws_markByteS x := by rw [mou_laws_markByteS]; exact ⟨Nat.le_trans h (by decide), fun a ha => trivial⟩
  rw [oe_laws_heldByteS, ve_laws_heldByteS]
  dsimp only
  generalize (mkL mi_ByteS x m).1 = L at hL hg ⊢
  have key : LoopOk (fun (x0 : (Int × Int)) => (bAnd (iLt x0.2 (lLen L)) (bNot (iNe (lGet L (iNat x0.2) 0) (iConv Go.IntKind.u8 x0.1))))) (fun (x0 : (Int × Int)) => ((iAdd Go.IntKind.i64 x0.1 1), (iAdd Go.IntKind.i64 x0.2 1))) (fun (x0 : (Int × Int)) => (((iLt x0.2 (lLen L)) = true → ((((0 : Int) ≤ x0.2) ∧ (x0.2 < (((List.length L) : Int)))) ∧ ((iNat x0.2) < (List.length L)))) ∧ ((iLt x0.2 (lLen L)) = false → True))) (m, 0) ∧ loopV (fun (x0 : (Int × Int)) => (bAnd (iLt x0.2 (lLen L)) (bNot (iNe (lGet L (iNat x0.2) 0) (iConv Go.IntKind.u8 x0.1))))) (fun (x0 : (Int × Int)) => ((iAdd Go.IntKind.i64 x0.1 1), (iAdd Go.IntKind.i64 x0.2 1))) (m, 0) = ((mkL mi_ByteS x m).2, (x.length : Int)) := by
    refine held_loop hl 0 (fun i hi => ?_) ?_
    · obtain ⟨b1, b2⟩ := mkPre_up (m := m) hU h0 (by omega) 0 i (by omega)
      have bm : i * 1 + 1 ≤ x.length * 1 := mul_step hi
      have g := hg i hi
      have hlt : (i : Int) < (L.length : Int) := by omega
      have hlN : i < L.length := by omega
      have ha := getD_mem x i 0 hi
      generalize (mkPre mi_ByteS x m i).2 = k at b1 b2 g ⊢
      generalize x.getD i 0 = a at g ha ⊢
      have e0 : IntKind.i64.wrap (k + 1) = k + 1 := wrapP (by omega) (by omega)
      simp only [lGet_eq, iNat_eq, lLen_eq, Int.toNat_natCast, iAdd_def, iConv_def, iNe_eq, iLt_eq, iEq_eq, iRem_def, bAnd_eq, bNot_eq, bIff_eq, g, mi_ByteS, e0]
      simp [hlt, hlN]
    · simp [iLt_eq, lLen_eq, hL, bAnd_eq]
  refine ⟨hok, ⟨up.1, by omega⟩, key.1, ?_⟩
  simp only [key.2]
  simp [bSel_eq, iLt_eq, lLen_eq, hL]
end
section
set_option maxRecDepth 8000
noncomputable def c_laws_markActionS : ACode :=
  (.seq (.region [⟨0, some 4, .mv (.c (.int .i64 0)), none, []⟩])
  (.seq (.seq (.region [⟨0, some 5, .mv (.c (.int .i64 0)), none, []⟩])
  (.block 0 (.loop [0, 1, 5] (.seq (.seq (.region [⟨0, some 6, .mv (.t 5), none, []⟩,
 ⟨1, some 7, .mv (.t 0), none, []⟩,
 ⟨2, some 8, .len (.t 7), none, []⟩,
 ⟨3, some 9, .bin .lss (.t 6) (.t 8), none, []⟩])
  (.cond (.t 9) .skip (.exit 0)))
  (.seq (.block 1 (.seq (.region [⟨0, some 12, .mv (.t 0), none, []⟩,
 ⟨1, some 13, .mv (.t 5), none, []⟩,
 ⟨2, some 14, .mv (.t 1), none, []⟩,
 ⟨3, some 15, .indexA 4 (.t 12) (.t 13), none, []⟩,
 ⟨4, some 16, .fieldA 0 (.t 15), none, []⟩,
 ⟨5, none, .storeH 1 (.t 16) (.t 14), none, []⟩])
  (.seq (.region [⟨0, some 17, .mv (.t 1), none, []⟩,
 ⟨1, some 18, .bin .add (.t 17) (.c (.int .i64 1)), none, []⟩,
 ⟨2, some 1, .mv (.t 18), none, []⟩])
  (.seq (.region [⟨0, some 19, .mv (.t 0), none, []⟩,
 ⟨1, some 20, .mv (.t 5), none, []⟩,
 ⟨2, some 21, .mv (.t 1), none, []⟩,
 ⟨3, some 22, .indexA 4 (.t 19) (.t 20), none, []⟩,
 ⟨4, some 23, .fieldA 1 (.t 22), none, []⟩,
 ⟨5, none, .storeH 1 (.t 23) (.t 21), none, []⟩])
  (.seq (.region [⟨0, some 24, .mv (.t 1), none, []⟩,
 ⟨1, some 25, .bin .add (.t 24) (.c (.int .i64 1)), none, []⟩,
 ⟨2, some 1, .mv (.t 25), none, []⟩])
  (.seq (.region [⟨0, some 26, .mv (.t 0), none, []⟩,
 ⟨1, some 27, .mv (.t 5), none, []⟩,
 ⟨2, some 28, .mv (.t 1), none, []⟩,
 ⟨3, some 29, .indexA 4 (.t 26) (.t 27), none, []⟩,
 ⟨4, some 30, .fieldA 2 (.t 29), none, []⟩,
 ⟨5, none, .storeH 1 (.t 30) (.t 28), none, []⟩])
  (.seq (.region [⟨0, some 31, .mv (.t 1), none, []⟩,
 ⟨1, some 32, .bin .add (.t 31) (.c (.int .i64 1)), none, []⟩,
 ⟨2, some 1, .mv (.t 32), none, []⟩])
  (.seq (.region [⟨0, some 33, .mv (.t 0), none, []⟩,
 ⟨1, some 34, .mv (.t 5), none, []⟩,
 ⟨2, some 35, .mv (.t 1), none, []⟩,
 ⟨3, some 36, .indexA 4 (.t 33) (.t 34), none, []⟩,
 ⟨4, some 37, .fieldA 3 (.t 36), none, []⟩,
 ⟨5, none, .storeH 1 (.t 37) (.t 35), none, []⟩])
  (.region [⟨0, some 38, .mv (.t 1), none, []⟩,
 ⟨1, some 39, .bin .add (.t 38) (.c (.int .i64 1)), none, []⟩,
 ⟨2, some 1, .mv (.t 39), none, []⟩])))))))))
  (.region [⟨0, some 10, .mv (.t 5), none, []⟩,
 ⟨1, some 11, .bin .add (.t 10) (.c (.int .i64 1)), none, []⟩,
 ⟨2, some 5, .mv (.t 11), none, []⟩]))))))
  (.seq (.region [⟨0, some 40, .mv (.t 1), none, []⟩,
 ⟨1, some 4, .mv (.t 40), none, []⟩])
  .ret)))
noncomputable def f_laws_markActionS : AFun := ⟨2, 41, 0, false, [.tmp 4], c_laws_markActionS⟩
@[irreducible] noncomputable def s_laws_markActionS : CallSem := funSem f_laws_markActionS
@[irreducible] noncomputable def mg_laws_markActionS (x : List (Int × Int × Int × Int)) (m : Int) : (List (Int × Int × Int × Int)) × Int := (shut fun (x : List (Int × Int × Int × Int)) (m : Int) => mkL (RT.mkI (.cons (.int .i64) (.cons (.int .i64) (.cons (.int .i64) (.one (.int .i64)))))) x m).1 x m
@[irreducible] noncomputable def mok_laws_markActionS (x : List (Int × Int × Int × Int)) : Prop := (shut fun (x : List (Int × Int × Int × Int)) => CT.wl (.sl (.cons (.int .i64) (.cons (.int .i64) (.cons (.int .i64) (.one (.int .i64)))))) x).1 x
theorem mgu_laws_markActionS : mg_laws_markActionS = fun x m => mkL (RT.mkI (.cons (.int .i64) (.cons (.int .i64) (.cons (.int .i64) (.one (.int .i64)))))) x m := by unfold mg_laws_markActionS; exact (shut _).2
theorem mou_laws_markActionS : mok_laws_markActionS = fun x => CT.wl (.sl (.cons (.int .i64) (.cons (.int .i64) (.cons (.int .i64) (.one (.int .i64)))))) x := by unfold mok_laws_markActionS; exact (shut _).2
theorem sl_laws_markActionS : SlC s_laws_markActionS (.cons (.int .i64) (.cons (.int .i64) (.cons (.int .i64) (.one (.int .i64))))) := by
  rintro h ω hd p l u m Q hok hinj hM hQ
  have hn := hM.len
  have hlb : l.length ≤ 9223372036854775807 := hok.1
  unfold s_laws_markActionS
  refine fun_intro rfl ?_
  unfold c_laws_markActionS
  repeat' (first | (simp only [go_sem, reduceIte, reduceCtorEq, Nat.reduceAdd, Nat.reduceBEq, Int.reduceLT, Int.reduceLE, Int.reduceGT, Int.reduceGE, Int.reduceBEq, Int.reduceBNe, Nat.reduceEqDiff, Nat.reduceLeDiff, Nat.reduceLT, hn]) | (refine aops_part rfl (fun hb => ?_) (fun hb => ?_) <;> simp only [hb, go_sem, reduceIte, reduceCtorEq, Nat.reduceAdd, Nat.reduceBEq, Int.reduceLT, Int.reduceLE, Int.reduceGT, Int.reduceGE, Int.reduceBEq, Int.reduceBNe, Nat.reduceEqDiff, Nat.reduceLeDiff, Nat.reduceLT, hn]) | (refine awp_part rfl (fun hb => ?_) (fun hb => ?_) <;> simp only [hb, go_sem, reduceIte, reduceCtorEq, Nat.reduceAdd, Nat.reduceBEq, Int.reduceLT, Int.reduceLE, Int.reduceGT, Int.reduceGE, Int.reduceBEq, Int.reduceBNe, Nat.reduceEqDiff, Nat.reduceLeDiff, Nat.reduceLT, hn]) | (refine wop_pick_part rfl (fun hb => ?_) (fun hb => ?_) <;> simp only [hb, go_sem, reduceIte, reduceCtorEq, Nat.reduceAdd, Nat.reduceBEq, Int.reduceLT, Int.reduceLE, Int.reduceGT, Int.reduceGE, Int.reduceBEq, Int.reduceBNe, Nat.reduceEqDiff, Nat.reduceLeDiff, Nat.reduceLT, hn]))
  refine loop_up l.length (fun i st => ∃ h', st = ⟨[u, .int .i64 (mkPre (RT.mkI (.cons (.int .i64) (.cons (.int .i64) (.cons (.int .i64) (.one (.int .i64)))))) l m i).2, .undef, .undef, .undef, .int .i64 (i : Int)] ++ reps 35, [], h'⟩ ∧ Only (Under ω hd p) h h' ∧ MS h' ω hd p (.cons (.int .i64) (.cons (.int .i64) (.cons (.int .i64) (.one (.int .i64))))) (mkPre (RT.mkI (.cons (.int .i64) (.cons (.int .i64) (.cons (.int .i64) (.one (.int .i64)))))) l m i).1 u) ?_ ?_
  · refine ⟨h, ?_, Only.refl _ _, hM⟩
    simp only [mkPre_zero, keep, Int.natCast_zero]
    rfl
  · rintro i st next hi ⟨h1, rfl, hO, hR⟩ hnx
    by_cases hlt : i < l.length
    · have hc : decide ((i : Int) < (l.length : Int)) = true := decide_eq_true (by omega)
      have hw : IntKind.i64.wrap ((i : Int) + 1) = ((i + 1 : Nat) : Int) := by rw [wrapI (by omega)]; omega
      obtain ⟨b, hub⟩ := hR.slice (by rw [mkPre_len]; omega)
      rw [mkPre_len] at hub
      subst hub
      cases hL : mkPre (RT.mkI (.cons (.int .i64) (.cons (.int .i64) (.cons (.int .i64) (.one (.int .i64)))))) l m i with
      | mk L k0 =>
      rw [hL] at hR
      obtain ⟨hLl, hs, hx0⟩ := mkPre_step hlt hL
      have hiL : i < L.length := by omega
      have hwx := wl_get hok hlt
      rw [← hx0] at hwx
      have R0 := MS.frame hR hiL
      clear hx0
      generalize hx0 : List.getD L i (RT.dflt (.cons (.int .i64) (.cons (.int .i64) (.cons (.int .i64) (.one (.int .i64)))))) = x0 at R0 hs hwx
      clear hx0
      have hx := idx_own (b := b) (w := 4) hlt (k := .i64)
      simp only
      obtain ⟨h2, s0, o0, R1⟩ := MS.st R0 hiL (off := 0) (by decide) (v := (.int .i64 k0)) rfl rfl (y := ((k0, x0.2.1, x0.2.2.1, x0.2.2.2) : RT.D (.cons (.int .i64) (.cons (.int .i64) (.cons (.int .i64) (.one (.int .i64))))))) rfl hinj []
      replace s0 : x_storeH [] h1 1 (.ptr b (i * 4)) (.int .i64 k0) = some (.undef, [], h2) := s0
      obtain ⟨h3, s1, o1, R2⟩ := MS.st R1 hiL (off := 1) (by decide) (v := (.int .i64 (IntKind.i64.wrap (k0 + 1)))) rfl rfl (y := ((k0, (IntKind.i64.wrap (k0 + 1)), x0.2.2.1, x0.2.2.2) : RT.D (.cons (.int .i64) (.cons (.int .i64) (.cons (.int .i64) (.one (.int .i64))))))) rfl hinj []
      replace s1 : x_storeH [] h2 1 (.ptr b (i * 4 + 1)) (.int .i64 (IntKind.i64.wrap (k0 + 1))) = some (.undef, [], h3) := s1
      obtain ⟨h4, s2, o2, R3⟩ := MS.st R2 hiL (off := 2) (by decide) (v := (.int .i64 (IntKind.i64.wrap (IntKind.i64.wrap (k0 + 1) + 1)))) rfl rfl (y := ((k0, (IntKind.i64.wrap (k0 + 1)), (IntKind.i64.wrap (IntKind.i64.wrap (k0 + 1) + 1)), x0.2.2.2) : RT.D (.cons (.int .i64) (.cons (.int .i64) (.cons (.int .i64) (.one (.int .i64))))))) rfl hinj []
      replace s2 : x_storeH [] h3 1 (.ptr b (i * 4 + 2)) (.int .i64 (IntKind.i64.wrap (IntKind.i64.wrap (k0 + 1) + 1))) = some (.undef, [], h4) := s2
      obtain ⟨h5, s3, o3, R4⟩ := MS.st R3 hiL (off := 3) (by decide) (v := (.int .i64 (IntKind.i64.wrap (IntKind.i64.wrap (IntKind.i64.wrap (k0 + 1) + 1) + 1)))) rfl rfl (y := ((k0, (IntKind.i64.wrap (k0 + 1)), (IntKind.i64.wrap (IntKind.i64.wrap (k0 + 1) + 1)), (IntKind.i64.wrap (IntKind.i64.wrap (IntKind.i64.wrap (k0 + 1) + 1) + 1))) : RT.D (.cons (.int .i64) (.cons (.int .i64) (.cons (.int .i64) (.one (.int .i64))))))) rfl hinj []
      replace s3 : x_storeH [] h4 1 (.ptr b (i * 4 + 3)) (.int .i64 (IntKind.i64.wrap (IntKind.i64.wrap (IntKind.i64.wrap (k0 + 1) + 1) + 1))) = some (.undef, [], h5) := s3
      repeat' (first | (simp only [go_sem, reduceIte, reduceCtorEq, Nat.reduceAdd, Nat.reduceBEq, Int.reduceLT, Int.reduceLE, Int.reduceGT, Int.reduceGE, Int.reduceBEq, Int.reduceBNe, Nat.reduceEqDiff, Nat.reduceLeDiff, Nat.reduceLT, hn, hc, hw, hx, s0, s1, s2, s3]) | (refine aops_part rfl (fun hb => ?_) (fun hb => ?_) <;> simp only [hb, go_sem, reduceIte, reduceCtorEq, Nat.reduceAdd, Nat.reduceBEq, Int.reduceLT, Int.reduceLE, Int.reduceGT, Int.reduceGE, Int.reduceBEq, Int.reduceBNe, Nat.reduceEqDiff, Nat.reduceLeDiff, Nat.reduceLT, hn, hc, hw, hx, s0, s1, s2, s3]) | (refine awp_part rfl (fun hb => ?_) (fun hb => ?_) <;> simp only [hb, go_sem, reduceIte, reduceCtorEq, Nat.reduceAdd, Nat.reduceBEq, Int.reduceLT, Int.reduceLE, Int.reduceGT, Int.reduceGE, Int.reduceBEq, Int.reduceBNe, Nat.reduceEqDiff, Nat.reduceLeDiff, Nat.reduceLT, hn, hc, hw, hx, s0, s1, s2, s3]) | (refine wop_pick_part rfl (fun hb => ?_) (fun hb => ?_) <;> simp only [hb, go_sem, reduceIte, reduceCtorEq, Nat.reduceAdd, Nat.reduceBEq, Int.reduceLT, Int.reduceLE, Int.reduceGT, Int.reduceGE, Int.reduceBEq, Int.reduceBNe, Nat.reduceEqDiff, Nat.reduceLeDiff, Nat.reduceLT, hn, hc, hw, hx, s0, s1, s2, s3]))
      exact hnx _ hlt ⟨h5, by rw [hs]; rfl, (Only.trans (Only.trans (Only.trans (Only.trans hO o0) o1) o2) o3), by rw [hs]; exact R4⟩
    · have hc : decide ((i : Int) < (l.length : Int)) = false := decide_eq_false (by omega)
      have hi' : i = l.length := by omega
      subst hi'
      repeat' (first | (simp only [go_sem, reduceIte, reduceCtorEq, Nat.reduceAdd, Nat.reduceBEq, Int.reduceLT, Int.reduceLE, Int.reduceGT, Int.reduceGE, Int.reduceBEq, Int.reduceBNe, Nat.reduceEqDiff, Nat.reduceLeDiff, Nat.reduceLT, hn, hc]) | (refine aops_part rfl (fun hb => ?_) (fun hb => ?_) <;> simp only [hb, go_sem, reduceIte, reduceCtorEq, Nat.reduceAdd, Nat.reduceBEq, Int.reduceLT, Int.reduceLE, Int.reduceGT, Int.reduceGE, Int.reduceBEq, Int.reduceBNe, Nat.reduceEqDiff, Nat.reduceLeDiff, Nat.reduceLT, hn, hc]) | (refine awp_part rfl (fun hb => ?_) (fun hb => ?_) <;> simp only [hb, go_sem, reduceIte, reduceCtorEq, Nat.reduceAdd, Nat.reduceBEq, Int.reduceLT, Int.reduceLE, Int.reduceGT, Int.reduceGE, Int.reduceBEq, Int.reduceBNe, Nat.reduceEqDiff, Nat.reduceLeDiff, Nat.reduceLT, hn, hc]) | (refine wop_pick_part rfl (fun hb => ?_) (fun hb => ?_) <;> simp only [hb, go_sem, reduceIte, reduceCtorEq, Nat.reduceAdd, Nat.reduceBEq, Int.reduceLT, Int.reduceLE, Int.reduceGT, Int.reduceGE, Int.reduceBEq, Int.reduceBNe, Nat.reduceEqDiff, Nat.reduceLeDiff, Nat.reduceLT, hn, hc]))
      have e := mkPre_all (RT.mkI (.cons (.int .i64) (.cons (.int .i64) (.cons (.int .i64) (.one (.int .i64)))))) l m
      rw [e] at hR ⊢
      exact hQ h1 hO hR
noncomputable def c_laws_markActionSS : ACode :=
  (.seq (.region [⟨0, some 4, .mv (.c (.int .i64 0)), none, []⟩])
  (.seq (.seq (.region [⟨0, some 5, .mv (.c (.int .i64 0)), none, []⟩])
  (.block 0 (.loop [0, 1, 5] (.seq (.seq (.region [⟨0, some 6, .mv (.t 5), none, []⟩,
 ⟨1, some 7, .mv (.t 0), none, []⟩,
 ⟨2, some 8, .len (.t 7), none, []⟩,
 ⟨3, some 9, .bin .lss (.t 6) (.t 8), none, []⟩])
  (.cond (.t 9) .skip (.exit 0)))
  (.seq (.block 1 (.region [⟨0, some 12, .mv (.t 0), none, []⟩,
 ⟨1, some 13, .mv (.t 5), none, []⟩,
 ⟨2, some 14, .indexA 1 (.t 12) (.t 13), none, []⟩,
 ⟨3, some 15, .loadH none (.t 14), none, []⟩,
 ⟨4, some 16, .mv (.t 1), none, []⟩,
 ⟨5, some 17, .call s_laws_markActionS [(.t 15), (.t 16)], none, []⟩,
 ⟨6, some 1, .mv (.t 17), none, []⟩]))
  (.region [⟨0, some 10, .mv (.t 5), none, []⟩,
 ⟨1, some 11, .bin .add (.t 10) (.c (.int .i64 1)), none, []⟩,
 ⟨2, some 5, .mv (.t 11), none, []⟩]))))))
  (.seq (.region [⟨0, some 18, .mv (.t 1), none, []⟩,
 ⟨1, some 4, .mv (.t 18), none, []⟩])
  .ret)))
noncomputable def f_laws_markActionSS : AFun := ⟨2, 19, 0, false, [.tmp 4], c_laws_markActionSS⟩
@[irreducible] noncomputable def s_laws_markActionSS : CallSem := funSem f_laws_markActionSS
@[irreducible] noncomputable def mg_laws_markActionSS (x : List (List (Int × Int × Int × Int))) (m : Int) : (List (List (Int × Int × Int × Int))) × Int := (shut fun (x : List (List (Int × Int × Int × Int))) (m : Int) => mkL (RT.mkI (.one (.sl (.cons (.int .i64) (.cons (.int .i64) (.cons (.int .i64) (.one (.int .i64)))))))) x m).1 x m
@[irreducible] noncomputable def mok_laws_markActionSS (x : List (List (Int × Int × Int × Int))) : Prop := (shut fun (x : List (List (Int × Int × Int × Int))) => CT.wl (.sl (.one (.sl (.cons (.int .i64) (.cons (.int .i64) (.cons (.int .i64) (.one (.int .i64)))))))) x).1 x
theorem mgu_laws_markActionSS : mg_laws_markActionSS = fun x m => mkL (RT.mkI (.one (.sl (.cons (.int .i64) (.cons (.int .i64) (.cons (.int .i64) (.one (.int .i64)))))))) x m := by unfold mg_laws_markActionSS; exact (shut _).2
theorem mou_laws_markActionSS : mok_laws_markActionSS = fun x => CT.wl (.sl (.one (.sl (.cons (.int .i64) (.cons (.int .i64) (.cons (.int .i64) (.one (.int .i64)))))))) x := by unfold mok_laws_markActionSS; exact (shut _).2
theorem sl_laws_markActionSS : SlC s_laws_markActionSS (.one (.sl (.cons (.int .i64) (.cons (.int .i64) (.cons (.int .i64) (.one (.int .i64))))))) := by
  rintro h ω hd p l u m Q hok hinj hM hQ
  have hn := hM.len
  have hlb : l.length ≤ 9223372036854775807 := hok.1
  unfold s_laws_markActionSS
  refine fun_intro rfl ?_
  unfold c_laws_markActionSS
  repeat' (first | (simp only [go_sem, reduceIte, reduceCtorEq, Nat.reduceAdd, Nat.reduceBEq, Int.reduceLT, Int.reduceLE, Int.reduceGT, Int.reduceGE, Int.reduceBEq, Int.reduceBNe, Nat.reduceEqDiff, Nat.reduceLeDiff, Nat.reduceLT, hn]) | (refine aops_part rfl (fun hb => ?_) (fun hb => ?_) <;> simp only [hb, go_sem, reduceIte, reduceCtorEq, Nat.reduceAdd, Nat.reduceBEq, Int.reduceLT, Int.reduceLE, Int.reduceGT, Int.reduceGE, Int.reduceBEq, Int.reduceBNe, Nat.reduceEqDiff, Nat.reduceLeDiff, Nat.reduceLT, hn]) | (refine awp_part rfl (fun hb => ?_) (fun hb => ?_) <;> simp only [hb, go_sem, reduceIte, reduceCtorEq, Nat.reduceAdd, Nat.reduceBEq, Int.reduceLT, Int.reduceLE, Int.reduceGT, Int.reduceGE, Int.reduceBEq, Int.reduceBNe, Nat.reduceEqDiff, Nat.reduceLeDiff, Nat.reduceLT, hn]) | (refine wop_pick_part rfl (fun hb => ?_) (fun hb => ?_) <;> simp only [hb, go_sem, reduceIte, reduceCtorEq, Nat.reduceAdd, Nat.reduceBEq, Int.reduceLT, Int.reduceLE, Int.reduceGT, Int.reduceGE, Int.reduceBEq, Int.reduceBNe, Nat.reduceEqDiff, Nat.reduceLeDiff, Nat.reduceLT, hn]))
  refine loop_up l.length (fun i st => ∃ h', st = ⟨[u, .int .i64 (mkPre (RT.mkI (.one (.sl (.cons (.int .i64) (.cons (.int .i64) (.cons (.int .i64) (.one (.int .i64)))))))) l m i).2, .undef, .undef, .undef, .int .i64 (i : Int)] ++ reps 13, [], h'⟩ ∧ Only (Under ω hd p) h h' ∧ MS h' ω hd p (.one (.sl (.cons (.int .i64) (.cons (.int .i64) (.cons (.int .i64) (.one (.int .i64))))))) (mkPre (RT.mkI (.one (.sl (.cons (.int .i64) (.cons (.int .i64) (.cons (.int .i64) (.one (.int .i64)))))))) l m i).1 u) ?_ ?_
  · refine ⟨h, ?_, Only.refl _ _, hM⟩
    simp only [mkPre_zero, keep, Int.natCast_zero]
    rfl
  · rintro i st next hi ⟨h1, rfl, hO, hR⟩ hnx
    by_cases hlt : i < l.length
    · have hc : decide ((i : Int) < (l.length : Int)) = true := decide_eq_true (by omega)
      have hw : IntKind.i64.wrap ((i : Int) + 1) = ((i + 1 : Nat) : Int) := by rw [wrapI (by omega)]; omega
      obtain ⟨b, hub⟩ := hR.slice (by rw [mkPre_len]; omega)
      rw [mkPre_len] at hub
      subst hub
      cases hL : mkPre (RT.mkI (.one (.sl (.cons (.int .i64) (.cons (.int .i64) (.cons (.int .i64) (.one (.int .i64)))))))) l m i with
      | mk L k0 =>
      rw [hL] at hR
      obtain ⟨hLl, hs, hx0⟩ := mkPre_step hlt hL
      have hiL : i < L.length := by omega
      have hwx := wl_get hok hlt
      rw [← hx0] at hwx
      have R0 := MS.frame hR hiL
      clear hx0
      generalize hx0 : List.getD L i (RT.dflt (.one (.sl (.cons (.int .i64) (.cons (.int .i64) (.cons (.int .i64) (.one (.int .i64)))))))) = x0 at R0 hs hwx
      clear hx0
      have hx := idx_own (b := b) (w := 1) hlt (k := .i64)
      simp only
      obtain ⟨u0, s0, M0, f0⟩ := MS.sb R0 hiL (off := 0) (by decide) (r' := (.cons (.int .i64) (.cons (.int .i64) (.cons (.int .i64) (.one (.int .i64)))))) (l' := x0) rfl
      replace s0 : v_loadH h1 none (.ptr b (i * 1)) = some u0 := s0
      have ok0 := (MS.ok1 M0).1
      repeat' (first | (simp only [go_sem, reduceIte, reduceCtorEq, Nat.reduceAdd, Nat.reduceBEq, Int.reduceLT, Int.reduceLE, Int.reduceGT, Int.reduceGE, Int.reduceBEq, Int.reduceBNe, Nat.reduceEqDiff, Nat.reduceLeDiff, Nat.reduceLT, hn, hc, hw, hx, s0, ok0]) | (refine aops_part rfl (fun hb => ?_) (fun hb => ?_) <;> simp only [hb, go_sem, reduceIte, reduceCtorEq, Nat.reduceAdd, Nat.reduceBEq, Int.reduceLT, Int.reduceLE, Int.reduceGT, Int.reduceGE, Int.reduceBEq, Int.reduceBNe, Nat.reduceEqDiff, Nat.reduceLeDiff, Nat.reduceLT, hn, hc, hw, hx, s0, ok0]) | (refine awp_part rfl (fun hb => ?_) (fun hb => ?_) <;> simp only [hb, go_sem, reduceIte, reduceCtorEq, Nat.reduceAdd, Nat.reduceBEq, Int.reduceLT, Int.reduceLE, Int.reduceGT, Int.reduceGE, Int.reduceBEq, Int.reduceBNe, Nat.reduceEqDiff, Nat.reduceLeDiff, Nat.reduceLT, hn, hc, hw, hx, s0, ok0]) | (refine wop_pick_part rfl (fun hb => ?_) (fun hb => ?_) <;> simp only [hb, go_sem, reduceIte, reduceCtorEq, Nat.reduceAdd, Nat.reduceBEq, Int.reduceLT, Int.reduceLE, Int.reduceGT, Int.reduceGE, Int.reduceBEq, Int.reduceBNe, Nat.reduceEqDiff, Nat.reduceLeDiff, Nat.reduceLT, hn, hc, hw, hx, s0, ok0]))
      refine callN (sl_laws_markActionS h1 ω hd _ x0 u0 k0 _ hwx hinj M0 fun h2 O0 N0 => ?_)
      obtain ⟨o0, R1⟩ := f0 h2 _ ((mkL (RT.mkI (.cons (.int .i64) (.cons (.int .i64) (.cons (.int .i64) (.one (.int .i64)))))) x0 k0).1 : RT.D (.one (.sl (.cons (.int .i64) (.cons (.int .i64) (.cons (.int .i64) (.one (.int .i64)))))))) O0 N0 rfl
      repeat' (first | (simp only [go_sem, reduceIte, reduceCtorEq, Nat.reduceAdd, Nat.reduceBEq, Int.reduceLT, Int.reduceLE, Int.reduceGT, Int.reduceGE, Int.reduceBEq, Int.reduceBNe, Nat.reduceEqDiff, Nat.reduceLeDiff, Nat.reduceLT, hn, hc, hw, hx, s0, ok0]) | (refine aops_part rfl (fun hb => ?_) (fun hb => ?_) <;> simp only [hb, go_sem, reduceIte, reduceCtorEq, Nat.reduceAdd, Nat.reduceBEq, Int.reduceLT, Int.reduceLE, Int.reduceGT, Int.reduceGE, Int.reduceBEq, Int.reduceBNe, Nat.reduceEqDiff, Nat.reduceLeDiff, Nat.reduceLT, hn, hc, hw, hx, s0, ok0]) | (refine awp_part rfl (fun hb => ?_) (fun hb => ?_) <;> simp only [hb, go_sem, reduceIte, reduceCtorEq, Nat.reduceAdd, Nat.reduceBEq, Int.reduceLT, Int.reduceLE, Int.reduceGT, Int.reduceGE, Int.reduceBEq, Int.reduceBNe, Nat.reduceEqDiff, Nat.reduceLeDiff, Nat.reduceLT, hn, hc, hw, hx, s0, ok0]) | (refine wop_pick_part rfl (fun hb => ?_) (fun hb => ?_) <;> simp only [hb, go_sem, reduceIte, reduceCtorEq, Nat.reduceAdd, Nat.reduceBEq, Int.reduceLT, Int.reduceLE, Int.reduceGT, Int.reduceGE, Int.reduceBEq, Int.reduceBNe, Nat.reduceEqDiff, Nat.reduceLeDiff, Nat.reduceLT, hn, hc, hw, hx, s0, ok0]))
      exact hnx _ hlt ⟨h2, by rw [hs]; rfl, (Only.trans hO o0), by rw [hs]; exact R1⟩
    · have hc : decide ((i : Int) < (l.length : Int)) = false := decide_eq_false (by omega)
      have hi' : i = l.length := by omega
      subst hi'
      repeat' (first | (simp only [go_sem, reduceIte, reduceCtorEq, Nat.reduceAdd, Nat.reduceBEq, Int.reduceLT, Int.reduceLE, Int.reduceGT, Int.reduceGE, Int.reduceBEq, Int.reduceBNe, Nat.reduceEqDiff, Nat.reduceLeDiff, Nat.reduceLT, hn, hc]) | (refine aops_part rfl (fun hb => ?_) (fun hb => ?_) <;> simp only [hb, go_sem, reduceIte, reduceCtorEq, Nat.reduceAdd, Nat.reduceBEq, Int.reduceLT, Int.reduceLE, Int.reduceGT, Int.reduceGE, Int.reduceBEq, Int.reduceBNe, Nat.reduceEqDiff, Nat.reduceLeDiff, Nat.reduceLT, hn, hc]) | (refine awp_part rfl (fun hb => ?_) (fun hb => ?_) <;> simp only [hb, go_sem, reduceIte, reduceCtorEq, Nat.reduceAdd, Nat.reduceBEq, Int.reduceLT, Int.reduceLE, Int.reduceGT, Int.reduceGE, Int.reduceBEq, Int.reduceBNe, Nat.reduceEqDiff, Nat.reduceLeDiff, Nat.reduceLT, hn, hc]) | (refine wop_pick_part rfl (fun hb => ?_) (fun hb => ?_) <;> simp only [hb, go_sem, reduceIte, reduceCtorEq, Nat.reduceAdd, Nat.reduceBEq, Int.reduceLT, Int.reduceLE, Int.reduceGT, Int.reduceGE, Int.reduceBEq, Int.reduceBNe, Nat.reduceEqDiff, Nat.reduceLeDiff, Nat.reduceLT, hn, hc]))
      have e := mkPre_all (RT.mkI (.one (.sl (.cons (.int .i64) (.cons (.int .i64) (.cons (.int .i64) (.one (.int .i64)))))))) l m
      rw [e] at hR ⊢
      exact hQ h1 hO hR
noncomputable def c_laws_markKeymap : ACode :=
  (.seq (.region [⟨0, some 2, .boxB 0 2 (.t 0), none, []⟩,
 ⟨1, some 4, .mv (.c (.int .i64 0)), none, []⟩])
  (.seq (.region [⟨0, some 5, .fieldA 1 (.t 2), none, []⟩,
 ⟨1, some 6, .loadB 0 none (.t 5), none, []⟩,
 ⟨2, some 7, .mv (.t 1), none, []⟩,
 ⟨3, some 8, .call s_laws_markActionSS [(.t 6), (.t 7)], none, []⟩,
 ⟨4, some 1, .mv (.t 8), none, []⟩])
  (.seq (.region [⟨0, some 9, .mv (.t 1), none, []⟩,
 ⟨1, some 4, .mv (.t 9), none, []⟩])
  .ret)))
noncomputable def f_laws_markKeymap : AFun := ⟨2, 10, 1, false, [.tmp 4], c_laws_markKeymap⟩
@[irreducible] noncomputable def s_laws_markKeymap : CallSem := funSem f_laws_markKeymap
@[irreducible] noncomputable def mg_laws_markKeymap (x : Int × (List (List (Int × Int × Int × Int)))) (m : Int) : (Int × (List (List (Int × Int × Int × Int)))) × Int := (shut fun (x : Int × (List (List (Int × Int × Int × Int)))) (m : Int) => RT.mkT (.cons (.int .i64) (.one (.sl (.one (.sl (.cons (.int .i64) (.cons (.int .i64) (.cons (.int .i64) (.one (.int .i64)))))))))) x m).1 x m
@[irreducible] noncomputable def mok_laws_markKeymap (x : Int × (List (List (Int × Int × Int × Int)))) : Prop := (shut fun (x : Int × (List (List (Int × Int × Int × Int)))) => RT.wl (.cons (.int .i64) (.one (.sl (.one (.sl (.cons (.int .i64) (.cons (.int .i64) (.cons (.int .i64) (.one (.int .i64)))))))))) x).1 x
theorem mgu_laws_markKeymap : mg_laws_markKeymap = fun x m => RT.mkT (.cons (.int .i64) (.one (.sl (.one (.sl (.cons (.int .i64) (.cons (.int .i64) (.cons (.int .i64) (.one (.int .i64)))))))))) x m := by unfold mg_laws_markKeymap; exact (shut _).2
theorem mou_laws_markKeymap : mok_laws_markKeymap = fun x => RT.wl (.cons (.int .i64) (.one (.sl (.one (.sl (.cons (.int .i64) (.cons (.int .i64) (.cons (.int .i64) (.one (.int .i64)))))))))) x := by unfold mok_laws_markKeymap; exact (shut _).2
theorem mk_laws_markKeymap : SoundM s_laws_markKeymap (agMk (.cons (.int .i64) (.one (.sl (.one (.sl (.cons (.int .i64) (.cons (.int .i64) (.cons (.int .i64) (.one (.int .i64))))))))))).P := by
  rintro h ω hd P b olds us u m K Q hinj hu hl hr ⟨x, rfl, hok, hK⟩ hQ
  have hu : u = .agg us := hu
  subst hu
  obtain ⟨u0, u1, rfl⟩ := len_2 hl
  have c0 : RC h ω (.inn hd (P ++ [b + 0])) (CT.enc (.int .i64) x.1) u0 := hr 0 (lt_enc (by decide))
  have c1 : RC h ω (.inn hd (P ++ [b + 1])) (CT.enc (.sl (.one (.sl (.cons (.int .i64) (.cons (.int .i64) (.cons (.int .i64) (.one (.int .i64)))))))) x.2) u1 := hr 1 (lt_enc (by decide))
  have e0 := c0.cellV rfl
  have e1 := c1.cellV rfl
  have g1 := (RC.own1 c1).1
  have z1 := (RC.own1 c1).2.2
  unfold s_laws_markKeymap
  refine fun_intro rfl ?_
  unfold c_laws_markKeymap
  repeat' (first | (simp only [go_sem, reduceIte, reduceCtorEq, Nat.reduceAdd, Nat.reduceBEq, Int.reduceLT, Int.reduceLE, Int.reduceGT, Int.reduceGE, Int.reduceBEq, Int.reduceBNe, Nat.reduceEqDiff, Nat.reduceLeDiff, Nat.reduceLT, e0, e1, g1]) | (refine aops_part rfl (fun hb => ?_) (fun hb => ?_) <;> simp only [hb, go_sem, reduceIte, reduceCtorEq, Nat.reduceAdd, Nat.reduceBEq, Int.reduceLT, Int.reduceLE, Int.reduceGT, Int.reduceGE, Int.reduceBEq, Int.reduceBNe, Nat.reduceEqDiff, Nat.reduceLeDiff, Nat.reduceLT, e0, e1, g1]) | (refine awp_part rfl (fun hb => ?_) (fun hb => ?_) <;> simp only [hb, go_sem, reduceIte, reduceCtorEq, Nat.reduceAdd, Nat.reduceBEq, Int.reduceLT, Int.reduceLE, Int.reduceGT, Int.reduceGE, Int.reduceBEq, Int.reduceBNe, Nat.reduceEqDiff, Nat.reduceLeDiff, Nat.reduceLT, e0, e1, g1]) | (refine wop_pick_part rfl (fun hb => ?_) (fun hb => ?_) <;> simp only [hb, go_sem, reduceIte, reduceCtorEq, Nat.reduceAdd, Nat.reduceBEq, Int.reduceLT, Int.reduceLE, Int.reduceGT, Int.reduceGE, Int.reduceBEq, Int.reduceBNe, Nat.reduceEqDiff, Nat.reduceLeDiff, Nat.reduceLT, e0, e1, g1]))
  refine callN (sl_laws_markActionSS h ω hd (P ++ [b + 1]) x.2 u1 m _ hok.2 hinj c1 fun h1 O0 N0 => ?_)
  replace N0 : RC h1 ω (.inn hd (P ++ [b + 1])) (CT.enc (.sl (.one (.sl (.cons (.int .i64) (.cons (.int .i64) (.cons (.int .i64) (.one (.int .i64)))))))) (mkL (RT.mkI (.one (.sl (.cons (.int .i64) (.cons (.int .i64) (.cons (.int .i64) (.one (.int .i64)))))))) x.2 m).1) u1 := N0
  have b0_0 := RC.beside c0 O0 (fun l hs => by obtain ⟨q, e⟩ := hs; exact ⟨b + 1, q, by omega, by rw [e]; simp⟩)
  repeat' (first | (simp only [go_sem, reduceIte, reduceCtorEq, Nat.reduceAdd, Nat.reduceBEq, Int.reduceLT, Int.reduceLE, Int.reduceGT, Int.reduceGE, Int.reduceBEq, Int.reduceBNe, Nat.reduceEqDiff, Nat.reduceLeDiff, Nat.reduceLT, e0, e1, g1]) | (refine aops_part rfl (fun hb => ?_) (fun hb => ?_) <;> simp only [hb, go_sem, reduceIte, reduceCtorEq, Nat.reduceAdd, Nat.reduceBEq, Int.reduceLT, Int.reduceLE, Int.reduceGT, Int.reduceGE, Int.reduceBEq, Int.reduceBNe, Nat.reduceEqDiff, Nat.reduceLeDiff, Nat.reduceLT, e0, e1, g1]) | (refine awp_part rfl (fun hb => ?_) (fun hb => ?_) <;> simp only [hb, go_sem, reduceIte, reduceCtorEq, Nat.reduceAdd, Nat.reduceBEq, Int.reduceLT, Int.reduceLE, Int.reduceGT, Int.reduceGE, Int.reduceBEq, Int.reduceBNe, Nat.reduceEqDiff, Nat.reduceLeDiff, Nat.reduceLT, e0, e1, g1]) | (refine wop_pick_part rfl (fun hb => ?_) (fun hb => ?_) <;> simp only [hb, go_sem, reduceIte, reduceCtorEq, Nat.reduceAdd, Nat.reduceBEq, Int.reduceLT, Int.reduceLE, Int.reduceGT, Int.reduceGE, Int.reduceBEq, Int.reduceBNe, Nat.reduceEqDiff, Nat.reduceLeDiff, Nat.reduceLT, e0, e1, g1]))
  refine hQ _ _ h1 hK rfl ((Only.mono O0 fun l hs => by obtain ⟨q, e⟩ := hs; exact ⟨1, _, q, lt_enc (by decide), rfl, by rw [e]; simp⟩)) fun c hc => ?_
  have hc : c < 2 := hc
  rcases (show c = 0 ∨ c = 1 by omega) with rfl | rfl
  · exact b0_0
  · exact N0
noncomputable def M_laws_markKeymap : DMk := ⟨(.cons (.int .i64) (.one (.sl (.one (.sl (.cons (.int .i64) (.cons (.int .i64) (.cons (.int .i64) (.one (.int .i64)))))))))), true, mok_laws_markKeymap, mg_laws_markKeymap⟩
theorem smk_laws_markKeymap : SoundM s_laws_markKeymap (DMk.P M_laws_markKeymap) := by unfold M_laws_markKeymap; rw [mou_laws_markKeymap, mgu_laws_markKeymap]; exact mk_laws_markKeymap
noncomputable def dc_spec_UnpackKeymap : DCode :=
  (.seq [2, 0] (.region [oa 0 2 (.allocB 0 [(.int .i64 0), .nils]),
 oa 1 3 (.mv (.c (.bool false)))])
  (.seq [2, 0] (.seq [29, 2, 0] (.region [on 0 11 0,
 xA 1 12 (.len (.t 11)) (rg 1),
 xA 2 13 (.bin .lss (.t 12) (.c (.int .i64 2))) (rg 2),
 xA 3 14 (.mv (.t 13)) (rg 3),
 ⟨4, some 15, .a true (.mv (.t 0)) none, (some (14, false)), [0, 1, 2, 3]⟩,
 ⟨5, some 16, .a false (.len (.t 15)) none, (some (14, false)), [0, 1, 2, 3, 4]⟩,
 ⟨6, some 17, .a true (.mv (.t 0)) none, (some (14, false)), [0, 1, 2, 3]⟩,
 ⟨7, some 18, .a false (.indexA 1 (.t 17) (.c (.int .i64 0))) none, (some (14, false)), [0, 1, 2, 3, 6]⟩,
 ⟨8, some 19, .a false (.loadH none (.t 18)) none, (some (14, false)), [0, 1, 2, 3, 6, 7]⟩,
 ⟨9, some 20, .a false (.conv .i64 (.t 19)) none, (some (14, false)), [0, 1, 2, 3, 6, 7, 8]⟩,
 ⟨10, some 21, .a false (.bin .mul (.c (.int .i64 3)) (.t 20)) none, (some (14, false)), [0, 1, 2, 3, 6, 7, 8, 9]⟩,
 ⟨11, some 22, .a true (.mv (.t 0)) none, (some (14, false)), [0, 1, 2, 3]⟩,
 ⟨12, some 23, .a false (.indexA 1 (.t 22) (.c (.int .i64 1))) none, (some (14, false)), [0, 1, 2, 3, 11]⟩,
 ⟨13, some 24, .a false (.loadH none (.t 23)) none, (some (14, false)), [0, 1, 2, 3, 11, 12]⟩,
 ⟨14, some 25, .a false (.conv .i64 (.t 24)) none, (some (14, false)), [0, 1, 2, 3, 11, 12, 13]⟩,
 ⟨15, some 26, .a false (.bin .mul (.t 21) (.t 25)) none, (some (14, false)), [0, 1, 2, 3, 6, 7, 8, 9, 10, 11, 12, 13, 14]⟩,
 ⟨16, some 27, .a false (.bin .add (.c (.int .i64 2)) (.t 26)) none, (some (14, false)), [0, 1, 2, 3, 6, 7, 8, 9, 10, 11, 12, 13, 14, 15]⟩,
 ⟨17, some 28, .a false (.bin .neq (.t 16) (.t 27)) none, (some (14, false)), [0, 1, 2, 3, 4, 5, 6, 7, 8, 9, 10, 11, 12, 13, 14, 15, 16]⟩,
 xA 18 29 (.pick (.t 14) (.c (.bool true)) (.t 28)) (rg 18)])
  (.cond (.t 29) (.seq [3, 2] (.region [oa 0 30 (.build [(.int .i64 0), .nils] []),
 os 1 (.storeB 0 2 (.t 2) (.t 30)),
 oa 2 3 (.mv (.c (.bool false)))])
  .ret) .skip))
  (.seq [4, 2, 0] (.region [on 0 31 0,
 oa 1 32 (.indexA 1 (.t 31) (.c (.int .i64 0))),
 oa 2 33 (.loadH none (.t 32)),
 oa 3 34 (.conv .i64 (.t 33)),
 oa 4 35 (.build [(.int .i64 0), .nils] [(0, 1, (.t 34))]),
 oa 5 4 (.allocB 1 [(.int .i64 0), .nils]),
 os 6 (.storeB 1 2 (.t 4) (.t 35))])
  (.seq [5, 4, 2, 0] (.region [oi 0 5 2])
  (.seq [4, 2] (.seq [6, 5, 4, 2, 0] (.region [oi 0 6 0])
  (.block 0 (.loop [0, 2, 4, 5, 6] 1 (.seq [6, 5, 4, 2, 0] (.seq [41, 6, 5, 4, 2, 0] (.region [om 0 36 6,
 on 1 37 0,
 oa 2 38 (.indexA 1 (.t 37) (.c (.int .i64 1))),
 oa 3 39 (.loadH none (.t 38)),
 oa 4 40 (.conv .i64 (.t 39)),
 oa 5 41 (.bin .lss (.t 36) (.t 40))])
  (.cond (.t 41) .skip (.exit 0)))
  (.seq [6, 5, 4, 2, 0] (.block 1 (.seq [7, 6, 5, 4, 2, 0] (.region [⟨0, some 44, .a false (.litSlice 4 0 [] []) (some (.cons (.int .i64) (.cons (.int .i64) (.cons (.int .i64) (.one (.int .i64)))))), none, []⟩,
 om 1 7 44])
  (.seq [7, 6, 5, 4, 2, 0] (.seq [8, 7, 6, 5, 4, 2, 0] (.region [oi 0 8 0])
  (.block 2 (.loop [0, 2, 4, 5, 6, 7, 8] 1 (.seq [8, 7, 6, 5, 4, 2, 0] (.seq [48, 8, 7, 6, 5, 4, 2, 0] (.region [om 0 45 8,
 oa 1 46 (.fieldA 0 (.t 4)),
 oa 2 47 (.loadB 1 none (.t 46)),
 oa 3 48 (.bin .lss (.t 45) (.t 47))])
  (.cond (.t 48) .skip (.exit 2)))
  (.seq [8, 7, 6, 5, 4, 2, 0] (.block 3 (.seq [10, 9, 8, 7, 6, 5, 4, 2, 0] (.region [on 0 52 0,
 om 1 53 5,
 om 2 54 5,
 oa 3 55 (.bin .add (.t 54) (.c (.int .i64 3))),
 oa 4 56 (.slice 1 (.t 52) (some (.t 53)) (some (.t 55))),
 oc 5 57 s_spec_UnpackAction p_spec_UnpackAction D_spec_UnpackAction [(.t 56)],
 om 6 51 57,
 oa 7 58 (.extract (.t 51) 0),
 oa 8 59 (.extract (.t 51) 1),
 oa 9 9 (.allocB 2 [(.int .i64 0), (.int .i64 0), (.int .i64 0), (.int .i64 0)]),
 os 10 (.storeB 2 4 (.t 9) (.t 58)),
 om 11 10 59])
  (.seq [9, 8, 7, 6, 5, 4, 2, 0] (.seq [61, 9, 8, 7, 6, 5, 4, 2, 0] (.region [om 0 60 10,
 oa 1 61 (.un .not (.t 60))])
  (.cond (.t 61) (.seq [3, 2] (.region [oa 0 62 (.build [(.int .i64 0), .nils] []),
 os 1 (.storeB 0 2 (.t 2) (.t 62)),
 oa 2 3 (.mv (.c (.bool false)))])
  .ret) .skip))
  (.seq [8, 7, 6, 5, 4, 2, 0] (.region [om 0 63 7,
 ob 1 64 (.loadB 2 (some 4) (.t 9)),
 ⟨2, some 65, .a false (.litSlice 4 1 [(.int .i64 0), (.int .i64 0), (.int .i64 0), (.int .i64 0)] [(0, 4, (.t 64))]) (some (.cons (.int .i64) (.cons (.int .i64) (.cons (.int .i64) (.one (.int .i64)))))), none, []⟩,
 oa 3 66 (.app 4 (.t 63) (.t 65)),
 om 4 7 66])
  (.region [om 0 67 5,
 oa 1 68 (.bin .add (.t 67) (.c (.int .i64 3))),
 om 2 5 68])))))
  (.region [om 0 49 8,
 oa 1 50 (.bin .add (.t 49) (.c (.int .i64 1))),
 om 2 8 50]))))))
  (.region [oa 0 69 (.fieldA 1 (.t 4)),
 ob 1 70 (.loadB 1 none (.t 69)),
 om 2 71 7,
 ⟨3, some 72, .a false (.litSlice 1 1 [.nils] [(0, 1, (.t 71))]) (some (.one (.sl (.cons (.int .i64) (.cons (.int .i64) (.cons (.int .i64) (.one (.int .i64)))))))), none, []⟩,
 oa 4 73 (.app 1 (.t 70) (.t 72)),
 oa 5 74 (.fieldA 1 (.t 4)),
 os 6 (.storeB 1 1 (.t 74) (.t 73))]))))
  (.region [om 0 42 6,
 oa 1 43 (.bin .add (.t 42) (.c (.int .i64 1))),
 om 2 6 43]))))))
  (.seq [4, 2] (.seq [77, 4, 2] (.region [oa 0 75 (.loadB 1 (some 2) (.t 4)),
 oc 1 76 s_spec_IsKeymap p_spec_IsKeymap D_spec_IsKeymap [(.t 75)],
 oa 2 77 (.un .not (.t 76))])
  (.cond (.t 77) (.seq [3, 2] (.region [oa 0 78 (.build [(.int .i64 0), .nils] []),
 os 1 (.storeB 0 2 (.t 2) (.t 78)),
 oa 2 3 (.mv (.c (.bool false)))])
  .ret) .skip))
  (.seq [3, 2] (.region [ob 0 79 (.loadB 1 (some 2) (.t 4)),
 os 1 (.storeB 0 2 (.t 2) (.t 79)),
 oa 2 3 (.mv (.c (.bool true)))])
  .ret)))))))
noncomputable def df_spec_UnpackKeymap : DFun := ⟨1, 80, 3, false, [.cell 2 (some 2), .tmp 3], dc_spec_UnpackKeymap⟩
noncomputable def pf_spec_UnpackKeymap : PFun := df_spec_UnpackKeymap.er
noncomputable def f_spec_UnpackKeymap : AFun := pf_spec_UnpackKeymap.er
@[irreducible] noncomputable def s_spec_UnpackKeymap : CallSem := funSem f_spec_UnpackKeymap
@[irreducible] noncomputable def p_spec_UnpackKeymap : PSem := pfunSem pf_spec_UnpackKeymap
theorem sp_spec_UnpackKeymap : SoundP s_spec_UnpackKeymap p_spec_UnpackKeymap := by unfold s_spec_UnpackKeymap p_spec_UnpackKeymap; exact pfun_sound (f := pf_spec_UnpackKeymap) ⟨sp_spec_UnpackAction, sp_spec_IsKeymap, trivial⟩
def h_spec_UnpackKeymap : List HT := [.one .frz (.sl (.one (.int .u8)))]
def q_spec_UnpackKeymap : QT := .tup [.agg [(.own, .int .i64), (.own, .sl (.one (.sl (.cons (.int .i64) (.cons (.int .i64) (.cons (.int .i64) (.one (.int .i64))))))))], .one .own (.bool)]
@[irreducible] noncomputable def v_spec_UnpackKeymap (x : List (Int)) : (Int × (List (List (Int × Int × Int × Int)))) × Bool := (shut fun x => fnV df_spec_UnpackKeymap h_spec_UnpackKeymap q_spec_UnpackKeymap x).1 x
@[irreducible] noncomputable def ok_spec_UnpackKeymap (x : List (Int)) : Prop := (shut fun x => fnOk df_spec_UnpackKeymap h_spec_UnpackKeymap q_spec_UnpackKeymap x).1 x
theorem vu_spec_UnpackKeymap (x : List (Int)) : v_spec_UnpackKeymap x = fnV df_spec_UnpackKeymap h_spec_UnpackKeymap q_spec_UnpackKeymap x := by unfold v_spec_UnpackKeymap; exact congrFun (shut _).2 x
theorem ou_spec_UnpackKeymap (x : List (Int)) : ok_spec_UnpackKeymap x = fnOk df_spec_UnpackKeymap h_spec_UnpackKeymap q_spec_UnpackKeymap x := by unfold ok_spec_UnpackKeymap; exact congrFun (shut _).2 x
noncomputable def D_spec_UnpackKeymap : DSem := DSemOf h_spec_UnpackKeymap q_spec_UnpackKeymap ok_spec_UnpackKeymap v_spec_UnpackKeymap
theorem ck_spec_UnpackKeymap (x : List (Int)) : fnChk df_spec_UnpackKeymap h_spec_UnpackKeymap q_spec_UnpackKeymap x = true := by kernel_rfl
theorem ob_spec_UnpackKeymap : AllD df_spec_UnpackKeymap.body.obs := ⟨sd_spec_UnpackAction, sd_spec_IsKeymap, trivial⟩
theorem st_spec_UnpackKeymap : fnSt df_spec_UnpackKeymap h_spec_UnpackKeymap q_spec_UnpackKeymap = true := by kernel_rfl
theorem sd_spec_UnpackKeymap : SoundD p_spec_UnpackKeymap D_spec_UnpackKeymap := by unfold p_spec_UnpackKeymap; exact soundD_of (f := df_spec_UnpackKeymap) (hs := h_spec_UnpackKeymap) (q := q_spec_UnpackKeymap) ob_spec_UnpackKeymap st_spec_UnpackKeymap ck_spec_UnpackKeymap (fun x h => Eq.mp (ou_spec_UnpackKeymap x) h) (fun x => (vu_spec_UnpackKeymap x).symm)
noncomputable def dc_impl_UnpackKeymap : DCode :=
  (.seq [2, 0] (.region [oa 0 2 (.allocB 0 [(.int .i64 0), .nils]),
 oa 1 3 (.mv (.c (.bool false)))])
  (.seq [2, 0] (.seq [27, 2, 0] (.region [on 0 9 0,
 xA 1 10 (.len (.t 9)) (rg 1),
 xA 2 11 (.bin .lss (.t 10) (.c (.int .i64 2))) (rg 2),
 xA 3 12 (.mv (.t 11)) (rg 3),
 ⟨4, some 13, .a true (.mv (.t 0)) none, (some (12, false)), [0, 1, 2, 3]⟩,
 ⟨5, some 14, .a false (.len (.t 13)) none, (some (12, false)), [0, 1, 2, 3, 4]⟩,
 ⟨6, some 15, .a true (.mv (.t 0)) none, (some (12, false)), [0, 1, 2, 3]⟩,
 ⟨7, some 16, .a false (.indexA 1 (.t 15) (.c (.int .i64 0))) none, (some (12, false)), [0, 1, 2, 3, 6]⟩,
 ⟨8, some 17, .a false (.loadH none (.t 16)) none, (some (12, false)), [0, 1, 2, 3, 6, 7]⟩,
 ⟨9, some 18, .a false (.conv .i64 (.t 17)) none, (some (12, false)), [0, 1, 2, 3, 6, 7, 8]⟩,
 ⟨10, some 19, .a false (.bin .mul (.c (.int .i64 3)) (.t 18)) none, (some (12, false)), [0, 1, 2, 3, 6, 7, 8, 9]⟩,
 ⟨11, some 20, .a true (.mv (.t 0)) none, (some (12, false)), [0, 1, 2, 3]⟩,
 ⟨12, some 21, .a false (.indexA 1 (.t 20) (.c (.int .i64 1))) none, (some (12, false)), [0, 1, 2, 3, 11]⟩,
 ⟨13, some 22, .a false (.loadH none (.t 21)) none, (some (12, false)), [0, 1, 2, 3, 11, 12]⟩,
 ⟨14, some 23, .a false (.conv .i64 (.t 22)) none, (some (12, false)), [0, 1, 2, 3, 11, 12, 13]⟩,
 ⟨15, some 24, .a false (.bin .mul (.t 19) (.t 23)) none, (some (12, false)), [0, 1, 2, 3, 6, 7, 8, 9, 10, 11, 12, 13, 14]⟩,
 ⟨16, some 25, .a false (.bin .add (.c (.int .i64 2)) (.t 24)) none, (some (12, false)), [0, 1, 2, 3, 6, 7, 8, 9, 10, 11, 12, 13, 14, 15]⟩,
 ⟨17, some 26, .a false (.bin .neq (.t 14) (.t 25)) none, (some (12, false)), [0, 1, 2, 3, 4, 5, 6, 7, 8, 9, 10, 11, 12, 13, 14, 15, 16]⟩,
 xA 18 27 (.pick (.t 12) (.c (.bool true)) (.t 26)) (rg 18)])
  (.cond (.t 27) (.seq [3, 2] (.region [oa 0 28 (.build [(.int .i64 0), .nils] []),
 os 1 (.storeB 0 2 (.t 2) (.t 28)),
 oa 2 3 (.mv (.c (.bool false)))])
  .ret) .skip))
  (.seq [4, 2, 0] (.region [on 0 29 0,
 oa 1 30 (.indexA 1 (.t 29) (.c (.int .i64 0))),
 oa 2 31 (.loadH none (.t 30)),
 oa 3 32 (.conv .i64 (.t 31)),
 oa 4 33 (.build [(.int .i64 0), .nils] [(0, 1, (.t 32))]),
 oa 5 4 (.allocB 1 [(.int .i64 0), .nils]),
 os 6 (.storeB 1 2 (.t 4) (.t 33))])
  (.seq [5, 4, 2, 0] (.region [oi 0 5 2])
  (.seq [4, 2] (.seq [38, 37, 5, 4, 2, 0] (.region [on 0 34 0,
 oa 1 35 (.indexA 1 (.t 34) (.c (.int .i64 1))),
 oa 2 36 (.loadH none (.t 35)),
 oa 3 37 (.conv .i64 (.t 36)),
 oi 4 38 0])
  (.block 0 (.loop [0, 2, 4, 5, 37, 38] 1 (.seq [39, 38, 37, 5, 4, 2, 0] (.region [oa 0 39 (.bin .lss (.t 38) (.t 37))])
  (.seq [38, 37, 5, 4, 2, 0] (.cond (.t 39) .skip (.exit 0))
  (.seq [38, 37, 5, 4, 2, 0] (.block 1 (.seq [38, 37, 6, 5, 4, 2, 0] (.region [oa 0 6 (.mv (.c .nils))])
  (.seq [38, 37, 6, 5, 4, 2, 0] (.seq [42, 41, 38, 37, 6, 5, 4, 2, 0] (.region [oa 0 40 (.fieldA 0 (.t 4)),
 oa 1 41 (.loadB 1 none (.t 40)),
 oi 2 42 0])
  (.block 2 (.loop [0, 2, 4, 5, 6, 37, 38, 41, 42] 1 (.seq [43, 42, 41, 38, 37, 6, 5, 4, 2, 0] (.region [oa 0 43 (.bin .lss (.t 42) (.t 41))])
  (.seq [42, 41, 38, 37, 6, 5, 4, 2, 0] (.cond (.t 43) .skip (.exit 2))
  (.seq [42, 41, 38, 37, 6, 5, 4, 2, 0] (.block 3 (.seq [42, 41, 38, 37, 8, 7, 6, 5, 4, 2, 0] (.region [on 0 45 0,
 om 1 46 5,
 om 2 47 5,
 oa 3 48 (.bin .add (.t 47) (.c (.int .i64 3))),
 oa 4 49 (.slice 1 (.t 45) (some (.t 46)) (some (.t 48))),
 oc 5 50 s_impl_UnpackAction p_impl_UnpackAction D_impl_UnpackAction [(.t 49)],
 om 6 44 50,
 oa 7 51 (.extract (.t 44) 0),
 oa 8 52 (.extract (.t 44) 1),
 oa 9 7 (.allocB 2 [(.int .i64 0), (.int .i64 0), (.int .i64 0), (.int .i64 0)]),
 os 10 (.storeB 2 4 (.t 7) (.t 51)),
 om 11 8 52])
  (.seq [42, 41, 38, 37, 7, 6, 5, 4, 2, 0] (.seq [54, 42, 41, 38, 37, 7, 6, 5, 4, 2, 0] (.region [om 0 53 8,
 oa 1 54 (.un .not (.t 53))])
  (.cond (.t 54) (.seq [3, 2] (.region [oa 0 55 (.build [(.int .i64 0), .nils] []),
 os 1 (.storeB 0 2 (.t 2) (.t 55)),
 oa 2 3 (.mv (.c (.bool false)))])
  .ret) .skip))
  (.seq [42, 41, 38, 37, 7, 6, 5, 4, 2, 0] (.region [om 0 56 5,
 oa 1 57 (.bin .add (.t 56) (.c (.int .i64 3))),
 om 2 5 57])
  (.region [om 0 58 6,
 ob 1 59 (.loadB 2 (some 4) (.t 7)),
 ⟨2, some 60, .a false (.litSlice 4 1 [(.int .i64 0), (.int .i64 0), (.int .i64 0), (.int .i64 0)] [(0, 4, (.t 59))]) (some (.cons (.int .i64) (.cons (.int .i64) (.cons (.int .i64) (.one (.int .i64)))))), none, []⟩,
 oa 3 61 (.app 4 (.t 58) (.t 60)),
 om 4 6 61])))))
  (.region [oa 0 62 (.bin .add (.t 42) (.c (.int .i64 1))),
 om 1 42 62])))))))
  (.region [oa 0 63 (.fieldA 1 (.t 4)),
 ob 1 64 (.loadB 1 none (.t 63)),
 om 2 65 6,
 ⟨3, some 66, .a false (.litSlice 1 1 [.nils] [(0, 1, (.t 65))]) (some (.one (.sl (.cons (.int .i64) (.cons (.int .i64) (.cons (.int .i64) (.one (.int .i64)))))))), none, []⟩,
 oa 4 67 (.app 1 (.t 64) (.t 66)),
 oa 5 68 (.fieldA 1 (.t 4)),
 os 6 (.storeB 1 1 (.t 68) (.t 67))]))))
  (.region [oa 0 69 (.bin .add (.t 38) (.c (.int .i64 1))),
 om 1 38 69])))))))
  (.seq [4, 2] (.seq [72, 4, 2] (.region [oa 0 70 (.loadB 1 (some 2) (.t 4)),
 oc 1 71 s_impl_IsKeymap p_impl_IsKeymap D_impl_IsKeymap [(.t 70)],
 oa 2 72 (.un .not (.t 71))])
  (.cond (.t 72) (.seq [3, 2] (.region [oa 0 73 (.build [(.int .i64 0), .nils] []),
 os 1 (.storeB 0 2 (.t 2) (.t 73)),
 oa 2 3 (.mv (.c (.bool false)))])
  .ret) .skip))
  (.seq [3, 2] (.region [ob 0 74 (.loadB 1 (some 2) (.t 4)),
 os 1 (.storeB 0 2 (.t 2) (.t 74)),
 oa 2 3 (.mv (.c (.bool true)))])
  .ret)))))))
noncomputable def df_impl_UnpackKeymap : DFun := ⟨1, 75, 3, false, [.cell 2 (some 2), .tmp 3], dc_impl_UnpackKeymap⟩
noncomputable def pf_impl_UnpackKeymap : PFun := df_impl_UnpackKeymap.er
noncomputable def f_impl_UnpackKeymap : AFun := pf_impl_UnpackKeymap.er
@[irreducible] noncomputable def s_impl_UnpackKeymap : CallSem := funSem f_impl_UnpackKeymap
@[irreducible] noncomputable def p_impl_UnpackKeymap : PSem := pfunSem pf_impl_UnpackKeymap
theorem sp_impl_UnpackKeymap : SoundP s_impl_UnpackKeymap p_impl_UnpackKeymap := by unfold s_impl_UnpackKeymap p_impl_UnpackKeymap; exact pfun_sound (f := pf_impl_UnpackKeymap) ⟨sp_impl_UnpackAction, sp_impl_IsKeymap, trivial⟩
def h_impl_UnpackKeymap : List HT := [.one .frz (.sl (.one (.int .u8)))]
def q_impl_UnpackKeymap : QT := .tup [.agg [(.own, .int .i64), (.own, .sl (.one (.sl (.cons (.int .i64) (.cons (.int .i64) (.cons (.int .i64) (.one (.int .i64))))))))], .one .own (.bool)]
@[irreducible] noncomputable def v_impl_UnpackKeymap (x : List (Int)) : (Int × (List (List (Int × Int × Int × Int)))) × Bool := (shut fun x => fnV df_impl_UnpackKeymap h_impl_UnpackKeymap q_impl_UnpackKeymap x).1 x
@[irreducible] noncomputable def ok_impl_UnpackKeymap (x : List (Int)) : Prop := (shut fun x => fnOk df_impl_UnpackKeymap h_impl_UnpackKeymap q_impl_UnpackKeymap x).1 x
theorem vu_impl_UnpackKeymap (x : List (Int)) : v_impl_UnpackKeymap x = fnV df_impl_UnpackKeymap h_impl_UnpackKeymap q_impl_UnpackKeymap x := by unfold v_impl_UnpackKeymap; exact congrFun (shut _).2 x
theorem ou_impl_UnpackKeymap (x : List (Int)) : ok_impl_UnpackKeymap x = fnOk df_impl_UnpackKeymap h_impl_UnpackKeymap q_impl_UnpackKeymap x := by unfold ok_impl_UnpackKeymap; exact congrFun (shut _).2 x
noncomputable def D_impl_UnpackKeymap : DSem := DSemOf h_impl_UnpackKeymap q_impl_UnpackKeymap ok_impl_UnpackKeymap v_impl_UnpackKeymap
theorem ck_impl_UnpackKeymap (x : List (Int)) : fnChk df_impl_UnpackKeymap h_impl_UnpackKeymap q_impl_UnpackKeymap x = true := by kernel_rfl
theorem ob_impl_UnpackKeymap : AllD df_impl_UnpackKeymap.body.obs := ⟨sd_impl_UnpackAction, sd_impl_IsKeymap, trivial⟩
theorem st_impl_UnpackKeymap : fnSt df_impl_UnpackKeymap h_impl_UnpackKeymap q_impl_UnpackKeymap = true := by kernel_rfl
theorem sd_impl_UnpackKeymap : SoundD p_impl_UnpackKeymap D_impl_UnpackKeymap := by unfold p_impl_UnpackKeymap; exact soundD_of (f := df_impl_UnpackKeymap) (hs := h_impl_UnpackKeymap) (q := q_impl_UnpackKeymap) ob_impl_UnpackKeymap st_impl_UnpackKeymap ck_impl_UnpackKeymap (fun x h => Eq.mp (ou_impl_UnpackKeymap x) h) (fun x => (vu_impl_UnpackKeymap x).symm)
noncomputable def dc_laws_heldActionS : DCode :=
  (.seq [1, 0] (.region [oi 0 4 0])
  (.seq [1] (.seq [5, 1, 0] (.region [oi 0 5 0])
  (.block 0 (.loop [0, 1, 5] 1 (.seq [5, 1, 0] (.seq [9, 5, 1, 0] (.region [om 0 6 5,
 on 1 7 0,
 oa 2 8 (.len (.t 7)),
 oa 3 9 (.bin .lss (.t 6) (.t 8))])
  (.cond (.t 9) .skip (.exit 0)))
  (.seq [5, 1, 0] (.block 1 (.seq [5, 1, 0] (.seq [18, 5, 1, 0] (.region [on 0 12 0,
 om 1 13 5,
 oa 2 14 (.indexA 4 (.t 12) (.t 13)),
 oa 3 15 (.fieldA 0 (.t 14)),
 oa 4 16 (.loadH none (.t 15)),
 om 5 17 1,
 oa 6 18 (.bin .neq (.t 16) (.t 17))])
  (.cond (.t 18) (.seq [4] (.region [oi 0 4 (-1)])
  .ret) .skip))
  (.seq [5, 1, 0] (.region [om 0 19 1,
 oa 1 20 (.bin .add (.t 19) (.c (.int .i64 1))),
 om 2 1 20])
  (.seq [5, 1, 0] (.seq [27, 5, 1, 0] (.region [on 0 21 0,
 om 1 22 5,
 oa 2 23 (.indexA 4 (.t 21) (.t 22)),
 oa 3 24 (.fieldA 1 (.t 23)),
 oa 4 25 (.loadH none (.t 24)),
 om 5 26 1,
 oa 6 27 (.bin .neq (.t 25) (.t 26))])
  (.cond (.t 27) (.seq [4] (.region [oi 0 4 (-1)])
  .ret) .skip))
  (.seq [5, 1, 0] (.region [om 0 28 1,
 oa 1 29 (.bin .add (.t 28) (.c (.int .i64 1))),
 om 2 1 29])
  (.seq [5, 1, 0] (.seq [36, 5, 1, 0] (.region [on 0 30 0,
 om 1 31 5,
 oa 2 32 (.indexA 4 (.t 30) (.t 31)),
 oa 3 33 (.fieldA 2 (.t 32)),
 oa 4 34 (.loadH none (.t 33)),
 om 5 35 1,
 oa 6 36 (.bin .neq (.t 34) (.t 35))])
  (.cond (.t 36) (.seq [4] (.region [oi 0 4 (-1)])
  .ret) .skip))
  (.seq [5, 1, 0] (.region [om 0 37 1,
 oa 1 38 (.bin .add (.t 37) (.c (.int .i64 1))),
 om 2 1 38])
  (.seq [5, 1, 0] (.seq [45, 5, 1, 0] (.region [on 0 39 0,
 om 1 40 5,
 oa 2 41 (.indexA 4 (.t 39) (.t 40)),
 oa 3 42 (.fieldA 3 (.t 41)),
 oa 4 43 (.loadH none (.t 42)),
 om 5 44 1,
 oa 6 45 (.bin .neq (.t 43) (.t 44))])
  (.cond (.t 45) (.seq [4] (.region [oi 0 4 (-1)])
  .ret) .skip))
  (.region [om 0 46 1,
 oa 1 47 (.bin .add (.t 46) (.c (.int .i64 1))),
 om 2 1 47])))))))))
  (.region [om 0 10 5,
 oa 1 11 (.bin .add (.t 10) (.c (.int .i64 1))),
 om 2 5 11]))))))
  (.seq [4] (.region [om 0 48 1,
 om 1 4 48])
  .ret)))
noncomputable def df_laws_heldActionS : DFun := ⟨2, 49, 0, true, [.tmp 4], dc_laws_heldActionS⟩
noncomputable def pf_laws_heldActionS : PFun := df_laws_heldActionS.er
noncomputable def f_laws_heldActionS : AFun := pf_laws_heldActionS.er
@[irreducible] noncomputable def s_laws_heldActionS : CallSem := funSem f_laws_heldActionS
@[irreducible] noncomputable def p_laws_heldActionS : PSem := pfunSem pf_laws_heldActionS
theorem sp_laws_heldActionS : SoundP s_laws_heldActionS p_laws_heldActionS := by unfold s_laws_heldActionS p_laws_heldActionS; exact pfun_sound (f := pf_laws_heldActionS) trivial
def h_laws_heldActionS : List HT := [.one .frz (.sl (.cons (.int .i64) (.cons (.int .i64) (.cons (.int .i64) (.one (.int .i64)))))), .one .frz (.int .i64)]
def q_laws_heldActionS : QT := .one (.one .own (.int .i64))
@[irreducible] noncomputable def v_laws_heldActionS (x : (List (Int × Int × Int × Int)) × Int) : Int := (shut fun x => fnV df_laws_heldActionS h_laws_heldActionS q_laws_heldActionS x).1 x
@[irreducible] noncomputable def ok_laws_heldActionS (x : (List (Int × Int × Int × Int)) × Int) : Prop := (shut fun x => fnOk df_laws_heldActionS h_laws_heldActionS q_laws_heldActionS x).1 x
theorem vu_laws_heldActionS (x : (List (Int × Int × Int × Int)) × Int) : v_laws_heldActionS x = fnV df_laws_heldActionS h_laws_heldActionS q_laws_heldActionS x := by unfold v_laws_heldActionS; exact congrFun (shut _).2 x
theorem ou_laws_heldActionS (x : (List (Int × Int × Int × Int)) × Int) : ok_laws_heldActionS x = fnOk df_laws_heldActionS h_laws_heldActionS q_laws_heldActionS x := by unfold ok_laws_heldActionS; exact congrFun (shut _).2 x
noncomputable def D_laws_heldActionS : DSem := DSemOf h_laws_heldActionS q_laws_heldActionS ok_laws_heldActionS v_laws_heldActionS
theorem ck_laws_heldActionS (x : (List (Int × Int × Int × Int)) × Int) : fnChk df_laws_heldActionS h_laws_heldActionS q_laws_heldActionS x = true := by kernel_rfl
theorem ob_laws_heldActionS : AllD df_laws_heldActionS.body.obs := trivial
theorem st_laws_heldActionS : fnSt df_laws_heldActionS h_laws_heldActionS q_laws_heldActionS = true := by kernel_rfl
theorem sd_laws_heldActionS : SoundD p_laws_heldActionS D_laws_heldActionS := by unfold p_laws_heldActionS; exact soundD_of (f := df_laws_heldActionS) (hs := h_laws_heldActionS) (q := q_laws_heldActionS) ob_laws_heldActionS st_laws_heldActionS ck_laws_heldActionS (fun x h => Eq.mp (ou_laws_heldActionS x) h) (fun x => (vu_laws_heldActionS x).symm)
noncomputable def dc_laws_heldActionSS : DCode :=
  (.seq [1, 0] (.region [oi 0 4 0])
  (.seq [1] (.seq [5, 1, 0] (.region [oi 0 5 0])
  (.block 0 (.loop [0, 1, 5] 1 (.seq [5, 1, 0] (.seq [9, 5, 1, 0] (.region [om 0 6 5,
 on 1 7 0,
 oa 2 8 (.len (.t 7)),
 oa 3 9 (.bin .lss (.t 6) (.t 8))])
  (.cond (.t 9) .skip (.exit 0)))
  (.seq [5, 1, 0] (.block 1 (.seq [5, 1, 0] (.region [on 0 12 0,
 om 1 13 5,
 oa 2 14 (.indexA 1 (.t 12) (.t 13)),
 oa 3 15 (.loadH none (.t 14)),
 om 4 16 1,
 oc 5 17 s_laws_heldActionS p_laws_heldActionS D_laws_heldActionS [(.t 15), (.t 16)],
 om 6 1 17])
  (.seq [19, 5, 1, 0] (.region [om 0 18 1,
 oa 1 19 (.bin .lss (.t 18) (.c (.int .i64 0)))])
  (.cond (.t 19) (.seq [4] (.region [oi 0 4 (-1)])
  .ret) .skip))))
  (.region [om 0 10 5,
 oa 1 11 (.bin .add (.t 10) (.c (.int .i64 1))),
 om 2 5 11]))))))
  (.seq [4] (.region [om 0 20 1,
 om 1 4 20])
  .ret)))
noncomputable def df_laws_heldActionSS : DFun := ⟨2, 21, 0, true, [.tmp 4], dc_laws_heldActionSS⟩
noncomputable def pf_laws_heldActionSS : PFun := df_laws_heldActionSS.er
noncomputable def f_laws_heldActionSS : AFun := pf_laws_heldActionSS.er
@[irreducible] noncomputable def s_laws_heldActionSS : CallSem := funSem f_laws_heldActionSS
@[irreducible] noncomputable def p_laws_heldActionSS : PSem := pfunSem pf_laws_heldActionSS
theorem sp_laws_heldActionSS : SoundP s_laws_heldActionSS p_laws_heldActionSS := by unfold s_laws_heldActionSS p_laws_heldActionSS; exact pfun_sound (f := pf_laws_heldActionSS) ⟨sp_laws_heldActionS, trivial⟩
def h_laws_heldActionSS : List HT := [.one .frz (.sl (.one (.sl (.cons (.int .i64) (.cons (.int .i64) (.cons (.int .i64) (.one (.int .i64)))))))), .one .frz (.int .i64)]
def q_laws_heldActionSS : QT := .one (.one .own (.int .i64))
@[irreducible] noncomputable def v_laws_heldActionSS (x : (List (List (Int × Int × Int × Int))) × Int) : Int := (shut fun x => fnV df_laws_heldActionSS h_laws_heldActionSS q_laws_heldActionSS x).1 x
@[irreducible] noncomputable def ok_laws_heldActionSS (x : (List (List (Int × Int × Int × Int))) × Int) : Prop := (shut fun x => fnOk df_laws_heldActionSS h_laws_heldActionSS q_laws_heldActionSS x).1 x
theorem vu_laws_heldActionSS (x : (List (List (Int × Int × Int × Int))) × Int) : v_laws_heldActionSS x = fnV df_laws_heldActionSS h_laws_heldActionSS q_laws_heldActionSS x := by unfold v_laws_heldActionSS; exact congrFun (shut _).2 x
theorem ou_laws_heldActionSS (x : (List (List (Int × Int × Int × Int))) × Int) : ok_laws_heldActionSS x = fnOk df_laws_heldActionSS h_laws_heldActionSS q_laws_heldActionSS x := by unfold ok_laws_heldActionSS; exact congrFun (shut _).2 x
noncomputable def D_laws_heldActionSS : DSem := DSemOf h_laws_heldActionSS q_laws_heldActionSS ok_laws_heldActionSS v_laws_heldActionSS
theorem ck_laws_heldActionSS (x : (List (List (Int × Int × Int × Int))) × Int) : fnChk df_laws_heldActionSS h_laws_heldActionSS q_laws_heldActionSS x = true := by kernel_rfl
theorem ob_laws_heldActionSS : AllD df_laws_heldActionSS.body.obs := ⟨sd_laws_heldActionS, trivial⟩
theorem st_laws_heldActionSS : fnSt df_laws_heldActionSS h_laws_heldActionSS q_laws_heldActionSS = true := by kernel_rfl
theorem sd_laws_heldActionSS : SoundD p_laws_heldActionSS D_laws_heldActionSS := by unfold p_laws_heldActionSS; exact soundD_of (f := df_laws_heldActionSS) (hs := h_laws_heldActionSS) (q := q_laws_heldActionSS) ob_laws_heldActionSS st_laws_heldActionSS ck_laws_heldActionSS (fun x h => Eq.mp (ou_laws_heldActionSS x) h) (fun x => (vu_laws_heldActionSS x).symm)
noncomputable def dc_laws_heldKeymap : DCode :=
  (.seq [2, 1] (.region [oa 0 2 (.boxB 0 2 (.t 0)),
 oi 1 4 0])
  (.seq [1] (.region [oa 0 5 (.fieldA 1 (.t 2)),
 oa 1 6 (.loadB 0 none (.t 5)),
 om 2 7 1,
 oc 3 8 s_laws_heldActionSS p_laws_heldActionSS D_laws_heldActionSS [(.t 6), (.t 7)],
 om 4 1 8])
  (.seq [1] (.seq [10, 1] (.region [om 0 9 1,
 oa 1 10 (.bin .lss (.t 9) (.c (.int .i64 0)))])
  (.cond (.t 10) (.seq [4] (.region [oi 0 4 (-1)])
  .ret) .skip))
  (.seq [4] (.region [om 0 11 1,
 om 1 4 11])
  .ret))))
noncomputable def df_laws_heldKeymap : DFun := ⟨2, 12, 1, true, [.tmp 4], dc_laws_heldKeymap⟩
noncomputable def pf_laws_heldKeymap : PFun := df_laws_heldKeymap.er
noncomputable def f_laws_heldKeymap : AFun := pf_laws_heldKeymap.er
@[irreducible] noncomputable def s_laws_heldKeymap : CallSem := funSem f_laws_heldKeymap
@[irreducible] noncomputable def p_laws_heldKeymap : PSem := pfunSem pf_laws_heldKeymap
theorem sp_laws_heldKeymap : SoundP s_laws_heldKeymap p_laws_heldKeymap := by unfold s_laws_heldKeymap p_laws_heldKeymap; exact pfun_sound (f := pf_laws_heldKeymap) ⟨sp_laws_heldActionSS, trivial⟩
def h_laws_heldKeymap : List HT := [.agg [(.frz, .int .i64), (.frz, .sl (.one (.sl (.cons (.int .i64) (.cons (.int .i64) (.cons (.int .i64) (.one (.int .i64))))))))], .one .frz (.int .i64)]
def q_laws_heldKeymap : QT := .one (.one .own (.int .i64))
@[irreducible] noncomputable def v_laws_heldKeymap (x : (Int × (List (List (Int × Int × Int × Int)))) × Int) : Int := (shut fun x => fnV df_laws_heldKeymap h_laws_heldKeymap q_laws_heldKeymap x).1 x
@[irreducible] noncomputable def ok_laws_heldKeymap (x : (Int × (List (List (Int × Int × Int × Int)))) × Int) : Prop := (shut fun x => fnOk df_laws_heldKeymap h_laws_heldKeymap q_laws_heldKeymap x).1 x
theorem vu_laws_heldKeymap (x : (Int × (List (List (Int × Int × Int × Int)))) × Int) : v_laws_heldKeymap x = fnV df_laws_heldKeymap h_laws_heldKeymap q_laws_heldKeymap x := by unfold v_laws_heldKeymap; exact congrFun (shut _).2 x
theorem ou_laws_heldKeymap (x : (Int × (List (List (Int × Int × Int × Int)))) × Int) : ok_laws_heldKeymap x = fnOk df_laws_heldKeymap h_laws_heldKeymap q_laws_heldKeymap x := by unfold ok_laws_heldKeymap; exact congrFun (shut _).2 x
noncomputable def D_laws_heldKeymap : DSem := DSemOf h_laws_heldKeymap q_laws_heldKeymap ok_laws_heldKeymap v_laws_heldKeymap
theorem ck_laws_heldKeymap (x : (Int × (List (List (Int × Int × Int × Int)))) × Int) : fnChk df_laws_heldKeymap h_laws_heldKeymap q_laws_heldKeymap x = true := by kernel_rfl
theorem ob_laws_heldKeymap : AllD df_laws_heldKeymap.body.obs := ⟨sd_laws_heldActionSS, trivial⟩
theorem st_laws_heldKeymap : fnSt df_laws_heldKeymap h_laws_heldKeymap q_laws_heldKeymap = true := by kernel_rfl
theorem sd_laws_heldKeymap : SoundD p_laws_heldKeymap D_laws_heldKeymap := by unfold p_laws_heldKeymap; exact soundD_of (f := df_laws_heldKeymap) (hs := h_laws_heldKeymap) (q := q_laws_heldKeymap) ob_laws_heldKeymap st_laws_heldKeymap ck_laws_heldKeymap (fun x h => Eq.mp (ou_laws_heldKeymap x) h) (fun x => (vu_laws_heldKeymap x).symm)
noncomputable def dc_laws_FnExactUnpackKeymap : DCode :=
  (.seq [0] (.region [oa 0 2 (.mv (.c (.bool false)))])
  (.seq [0] (.seq [15, 0] (.region [on 0 13 0,
 oa 1 14 (.len (.t 13)),
 oa 2 15 (.bin .gtr (.t 14) (.c (.int .i64 1048576)))])
  (.cond (.t 15) (.seq [2] (.region [oa 0 2 (.mv (.c (.bool true)))])
  .ret) .skip))
  (.seq [4, 3, 0] (.region [on 0 17 0,
 oc 1 18 s_laws_toByteS p_laws_toByteS D_laws_toByteS [(.t 17)],
 oc 2 19 s_spec_UnpackKeymap p_spec_UnpackKeymap D_spec_UnpackKeymap [(.t 18)],
 om 3 16 19,
 oa 4 20 (.extract (.t 16) 0),
 oa 5 21 (.extract (.t 16) 1),
 oa 6 3 (.allocB 0 [(.int .i64 0), .nils]),
 os 7 (.storeB 0 2 (.t 3) (.t 20)),
 om 8 4 21])
  (.seq [5, 4, 3, 0] (.region [on 0 22 0,
 oc 1 23 s_laws_toByteS p_laws_toByteS D_laws_toByteS [(.t 22)],
 om 2 5 23])
  (.seq [7, 6, 5, 4, 3, 0] (.region [on 0 25 5,
 oc 1 26 s_impl_UnpackKeymap p_impl_UnpackKeymap D_impl_UnpackKeymap [(.t 25)],
 om 2 24 26,
 oa 3 27 (.extract (.t 24) 0),
 oa 4 28 (.extract (.t 24) 1),
 oa 5 6 (.allocB 1 [(.int .i64 0), .nils]),
 os 6 (.storeB 1 2 (.t 6) (.t 27)),
 om 7 7 28])
  (.seq [7, 6, 5, 4, 3, 0] (.seq [37, 7, 6, 5, 4, 3, 0] (.region [oa 0 29 (.loadB 1 (some 2) (.t 6)),
 oa 1 30 (.loadB 0 (some 2) (.t 3)),
 oc 2 31 s_laws_eqKeymap p_laws_eqKeymap D_laws_eqKeymap [(.t 29), (.t 30)],
 oa 3 32 (.un .not (.t 31)),
 om 4 33 32,
 og 5 34 (.mv (.t 7)) 33 false,
 og 6 35 (.mv (.t 4)) 33 false,
 og 7 36 (.eqB true (.t 34) (.t 35)) 33 false,
 oa 8 37 (.pick (.t 33) (.c (.bool true)) (.t 36))])
  (.cond (.t 37) (.seq [2] (.region [oa 0 2 (.mv (.c (.bool false)))])
  .ret) .skip))
  (.seq [7, 6, 5, 4, 3, 0] (.seq [42, 7, 6, 5, 4, 3, 0] (.region [on 0 38 5,
 on 1 39 0,
 oc 2 40 s_laws_toByteS p_laws_toByteS D_laws_toByteS [(.t 39)],
 oc 3 41 s_laws_eqByteS p_laws_eqByteS D_laws_eqByteS [(.t 38), (.t 40)],
 oa 4 42 (.un .not (.t 41))])
  (.cond (.t 42) (.seq [2] (.region [oa 0 2 (.mv (.c (.bool false)))])
  .ret) .skip))
  (.seq [8, 7, 6, 5, 4, 3, 0] (.region [oi 0 8 1])
  (.seq [8, 7, 6, 4, 3, 0] (.region [on 0 43 5,
 om 1 44 8,
 ⟨2, some 45, .mark s_laws_markByteS M_laws_markByteS (.t 43) (.t 44), none, []⟩,
 om 3 8 45])
  (.seq [6, 4, 3, 0] (.seq [58, 6, 4, 3, 0] (.region [om 0 46 8,
 oa 1 47 (.bin .lss (.t 46) (.c (.int .i64 0))),
 om 2 48 47,
 og 3 49 (.loadB 1 (some 2) (.t 6)) 48 false,
 og 4 50 (.loadB 0 (some 2) (.t 3)) 48 false,
 ⟨5, some 51, .call false s_laws_eqKeymap p_laws_eqKeymap D_laws_eqKeymap [(.t 49), (.t 50)], (some (48, false)), []⟩,
 og 6 52 (.un .not (.t 51)) 48 false,
 oa 7 53 (.pick (.t 48) (.c (.bool true)) (.t 52)),
 om 8 54 53,
 og 9 55 (.mv (.t 7)) 54 false,
 og 10 56 (.mv (.t 4)) 54 false,
 og 11 57 (.eqB true (.t 55) (.t 56)) 54 false,
 oa 12 58 (.pick (.t 54) (.c (.bool true)) (.t 57))])
  (.cond (.t 58) (.seq [2] (.region [oa 0 2 (.mv (.c (.bool false)))])
  .ret) .skip))
  (.seq [9, 6, 4, 3, 0] (.region [oi 0 9 1])
  (.seq [9, 6, 4, 3, 0] (.region [oa 0 59 (.loadB 1 (some 2) (.t 6)),
 om 1 60 9,
 ⟨2, some 61, .mark s_laws_markKeymap M_laws_markKeymap (.t 59) (.t 60), none, []⟩,
 om 3 9 61])
  (.seq [10, 9, 6, 4, 3, 0] (.region [oi 0 10 1])
  (.seq [10, 9, 6, 4, 3, 0] (.region [oa 0 62 (.loadB 1 (some 2) (.t 6)),
 om 1 63 10,
 oc 2 64 s_laws_heldKeymap p_laws_heldKeymap D_laws_heldKeymap [(.t 62), (.t 63)],
 om 3 10 64])
  (.seq [10, 9, 6, 4, 3, 0] (.seq [66, 10, 9, 6, 4, 3, 0] (.region [om 0 65 10,
 oa 1 66 (.bin .lss (.t 65) (.c (.int .i64 0)))])
  (.cond (.t 66) (.seq [2] (.region [oa 0 2 (.mv (.c (.bool false)))])
  .ret) .skip))
  (.seq [9, 6, 4, 3, 0] (.seq [69, 9, 6, 4, 3, 0] (.region [om 0 67 10,
 om 1 68 9,
 oa 2 69 (.bin .neq (.t 67) (.t 68))])
  (.cond (.t 69) (.seq [2] (.region [oa 0 2 (.mv (.c (.bool false)))])
  .ret) .skip))
  (.seq [12, 11, 9, 6, 4, 3] (.region [on 0 71 0,
 oc 1 72 s_laws_toByteS p_laws_toByteS D_laws_toByteS [(.t 71)],
 oc 2 73 s_impl_UnpackKeymap p_impl_UnpackKeymap D_impl_UnpackKeymap [(.t 72)],
 om 3 70 73,
 oa 4 74 (.extract (.t 70) 0),
 oa 5 75 (.extract (.t 70) 1),
 oa 6 11 (.allocB 2 [(.int .i64 0), .nils]),
 os 7 (.storeB 2 2 (.t 11) (.t 74)),
 om 8 12 75])
  (.seq [9, 6] (.seq [84, 9, 6] (.region [oa 0 76 (.loadB 2 (some 2) (.t 11)),
 oa 1 77 (.loadB 0 (some 2) (.t 3)),
 oc 2 78 s_laws_eqKeymap p_laws_eqKeymap D_laws_eqKeymap [(.t 76), (.t 77)],
 oa 3 79 (.un .not (.t 78)),
 om 4 80 79,
 og 5 81 (.mv (.t 12)) 80 false,
 og 6 82 (.mv (.t 4)) 80 false,
 og 7 83 (.eqB true (.t 81) (.t 82)) 80 false,
 oa 8 84 (.pick (.t 80) (.c (.bool true)) (.t 83))])
  (.cond (.t 84) (.seq [2] (.region [oa 0 2 (.mv (.c (.bool false)))])
  .ret) .skip))
  (.seq [10, 9, 6] (.region [oi 0 10 1])
  (.seq [10, 9] (.region [oa 0 85 (.loadB 1 (some 2) (.t 6)),
 om 1 86 10,
 oc 2 87 s_laws_heldKeymap p_laws_heldKeymap D_laws_heldKeymap [(.t 85), (.t 86)],
 om 3 10 87])
  (.seq [10, 9] (.seq [89, 10, 9] (.region [om 0 88 10,
 oa 1 89 (.bin .lss (.t 88) (.c (.int .i64 0)))])
  (.cond (.t 89) (.seq [2] (.region [oa 0 2 (.mv (.c (.bool false)))])
  .ret) .skip))
  (.seq [] (.seq [92] (.region [om 0 90 10,
 om 1 91 9,
 oa 2 92 (.bin .neq (.t 90) (.t 91))])
  (.cond (.t 92) (.seq [2] (.region [oa 0 2 (.mv (.c (.bool false)))])
  .ret) .skip))
  (.seq [2] (.region [oa 0 2 (.mv (.c (.bool true)))])
  .ret)))))))))))))))))))))))
noncomputable def df_laws_FnExactUnpackKeymap : DFun := ⟨1, 93, 3, true, [.tmp 2], dc_laws_FnExactUnpackKeymap⟩
noncomputable def pf_laws_FnExactUnpackKeymap : PFun := df_laws_FnExactUnpackKeymap.er
noncomputable def f_laws_FnExactUnpackKeymap : AFun := pf_laws_FnExactUnpackKeymap.er
@[irreducible] noncomputable def s_laws_FnExactUnpackKeymap : CallSem := funSem f_laws_FnExactUnpackKeymap
@[irreducible] noncomputable def p_laws_FnExactUnpackKeymap : PSem := pfunSem pf_laws_FnExactUnpackKeymap
theorem sp_laws_FnExactUnpackKeymap : SoundP s_laws_FnExactUnpackKeymap p_laws_FnExactUnpackKeymap := by unfold s_laws_FnExactUnpackKeymap p_laws_FnExactUnpackKeymap; exact pfun_sound (f := pf_laws_FnExactUnpackKeymap) ⟨sp_laws_toByteS, sp_spec_UnpackKeymap, sp_laws_toByteS, sp_impl_UnpackKeymap, sp_laws_eqKeymap, sp_laws_toByteS, sp_laws_eqByteS, smk_laws_markByteS, sp_laws_eqKeymap, smk_laws_markKeymap, sp_laws_heldKeymap, sp_laws_toByteS, sp_impl_UnpackKeymap, sp_laws_eqKeymap, sp_laws_heldKeymap, trivial⟩
def h_laws_FnExactUnpackKeymap : List HT := [.one .frz (.sl (.one (.int .u8)))]
def q_laws_FnExactUnpackKeymap : QT := .one (.one .own (.bool))
@[irreducible] noncomputable def v_laws_FnExactUnpackKeymap (x : List (Int)) : Bool := (shut fun x => fnV df_laws_FnExactUnpackKeymap h_laws_FnExactUnpackKeymap q_laws_FnExactUnpackKeymap x).1 x
@[irreducible] noncomputable def ok_laws_FnExactUnpackKeymap (x : List (Int)) : Prop := (shut fun x => fnOk df_laws_FnExactUnpackKeymap h_laws_FnExactUnpackKeymap q_laws_FnExactUnpackKeymap x).1 x
theorem vu_laws_FnExactUnpackKeymap (x : List (Int)) : v_laws_FnExactUnpackKeymap x = fnV df_laws_FnExactUnpackKeymap h_laws_FnExactUnpackKeymap q_laws_FnExactUnpackKeymap x := by unfold v_laws_FnExactUnpackKeymap; exact congrFun (shut _).2 x
theorem ou_laws_FnExactUnpackKeymap (x : List (Int)) : ok_laws_FnExactUnpackKeymap x = fnOk df_laws_FnExactUnpackKeymap h_laws_FnExactUnpackKeymap q_laws_FnExactUnpackKeymap x := by unfold ok_laws_FnExactUnpackKeymap; exact congrFun (shut _).2 x
theorem ck_laws_FnExactUnpackKeymap (x : List (Int)) : fnChk df_laws_FnExactUnpackKeymap h_laws_FnExactUnpackKeymap q_laws_FnExactUnpackKeymap x = true := by kernel_rfl
theorem ob_laws_FnExactUnpackKeymap : AllD df_laws_FnExactUnpackKeymap.body.obs := ⟨sd_laws_toByteS, sd_spec_UnpackKeymap, sd_laws_toByteS, sd_impl_UnpackKeymap, sd_laws_eqKeymap, sd_laws_toByteS, sd_laws_eqByteS, sd_laws_eqKeymap, sd_laws_heldKeymap, sd_laws_toByteS, sd_impl_UnpackKeymap, sd_laws_eqKeymap, sd_laws_heldKeymap, trivial⟩
theorem st_laws_FnExactUnpackKeymap : fnSt df_laws_FnExactUnpackKeymap h_laws_FnExactUnpackKeymap q_laws_FnExactUnpackKeymap = true := by kernel_rfl
end
section
set_option maxRecDepth 100000
noncomputable def lc_spec_UnpackKeymap_2 (x : List (Int)) (x1 : (Int × ((List (Int × (Int × (Int × Int)))) × Int))) : Bool := (bAnd (iLt x1.2.2 (iConv Go.IntKind.i64 (lGet x (iNat 0) 0))) (bNot (bNot (v_spec_UnpackAction (lSub x (iNat x1.1) (iNat (iAdd Go.IntKind.i64 x1.1 3)))).2)))
noncomputable def lf_spec_UnpackKeymap_2 (x : List (Int)) (x1 : (Int × ((List (Int × (Int × (Int × Int)))) × Int))) : (Int × ((List (Int × (Int × (Int × Int)))) × Int)) := ((iAdd Go.IntKind.i64 x1.1 3), (lApp x1.2.1 [(v_spec_UnpackAction (lSub x (iNat x1.1) (iNat (iAdd Go.IntKind.i64 x1.1 3)))).1]), (iAdd Go.IntKind.i64 x1.2.2 1))
noncomputable def lc_spec_UnpackKeymap_1 (x : List (Int)) (x0 : (Int × (Int × (List (List (Int × (Int × (Int × Int)))))))) : Bool := (bAnd (iLt x0.2.1 (iConv Go.IntKind.i64 (lGet x (iNat 1) 0))) (bNot (iLt (loopV (lc_spec_UnpackKeymap_2 x) (lf_spec_UnpackKeymap_2 x) (x0.1, [], 0)).2.2 (iConv Go.IntKind.i64 (lGet x (iNat 0) 0)))))
noncomputable def lf_spec_UnpackKeymap_1 (x : List (Int)) (x0 : (Int × (Int × (List (List (Int × (Int × (Int × Int)))))))) : (Int × (Int × (List (List (Int × (Int × (Int × Int))))))) := ((loopV (lc_spec_UnpackKeymap_2 x) (lf_spec_UnpackKeymap_2 x) (x0.1, [], 0)).1, (iAdd Go.IntKind.i64 x0.2.1 1), (lApp x0.2.2 [(loopV (lc_spec_UnpackKeymap_2 x) (lf_spec_UnpackKeymap_2 x) (x0.1, [], 0)).2.1]))
noncomputable def lp_spec_UnpackKeymap_2 (x : List (Int)) (x1 : (Int × ((List (Int × (Int × (Int × Int)))) × Int))) : Prop := (((iLt x1.2.2 (iConv Go.IntKind.i64 (lGet x (iNat 0) 0))) = true → (((((0 : Int) ≤ x1.1) ∧ ((0 : Int) ≤ (iAdd Go.IntKind.i64 x1.1 3))) ∧ (((iNat x1.1) ≤ (iNat (iAdd Go.IntKind.i64 x1.1 3))) ∧ (((iNat (iAdd Go.IntKind.i64 x1.1 3)) ≤ (List.length x)) ∧ (0 < (List.length x))))) ∧ ((ok_spec_UnpackAction (lSub x (iNat x1.1) (iNat (iAdd Go.IntKind.i64 x1.1 3)))) ∧ (((bNot (v_spec_UnpackAction (lSub x (iNat x1.1) (iNat (iAdd Go.IntKind.i64 x1.1 3)))).2) = true → True) ∧ ((bNot (v_spec_UnpackAction (lSub x (iNat x1.1) (iNat (iAdd Go.IntKind.i64 x1.1 3)))).2) = false → (roomy (((List.length x1.2.1) + (List.length [(v_spec_UnpackAction (lSub x (iNat x1.1) (iNat (iAdd Go.IntKind.i64 x1.1 3)))).1])) * 4))))))) ∧ ((iLt x1.2.2 (iConv Go.IntKind.i64 (lGet x (iNat 0) 0))) = false → True))
noncomputable def lp_spec_UnpackKeymap_1 (x : List (Int)) (x0 : (Int × (Int × (List (List (Int × (Int × (Int × Int)))))))) : Prop := ((((0 : Int) ≤ 1) ∧ ((1 : Int) < (((List.length x) : Int)))) ∧ (((iNat 1) < (List.length x)) ∧ (((iLt x0.2.1 (iConv Go.IntKind.i64 (lGet x (iNat 1) 0))) = true → ((LoopOk (lc_spec_UnpackKeymap_2 x) (lf_spec_UnpackKeymap_2 x) (lp_spec_UnpackKeymap_2 x) (x0.1, [], 0)) ∧ (((iLt (loopV (lc_spec_UnpackKeymap_2 x) (lf_spec_UnpackKeymap_2 x) (x0.1, [], 0)).2.2 (iConv Go.IntKind.i64 (lGet x (iNat 0) 0))) = true → True) ∧ ((iLt (loopV (lc_spec_UnpackKeymap_2 x) (lf_spec_UnpackKeymap_2 x) (x0.1, [], 0)).2.2 (iConv Go.IntKind.i64 (lGet x (iNat 0) 0))) = false → (roomy (((List.length x0.2.2) + (List.length [(loopV (lc_spec_UnpackKeymap_2 x) (lf_spec_UnpackKeymap_2 x) (x0.1, [], 0)).2.1])) * 1)))))) ∧ ((iLt x0.2.1 (iConv Go.IntKind.i64 (lGet x (iNat 1) 0))) = false → True))))
theorem ve_spec_UnpackKeymap (x : List (Int)) : v_spec_UnpackKeymap x = (bSel (bOr (iLt (lLen x) 2) (iNe (lLen x) (iAdd Go.IntKind.i64 2 (iMul Go.IntKind.i64 (iMul Go.IntKind.i64 3 (iConv Go.IntKind.i64 (lGet x (iNat 0) 0))) (iConv Go.IntKind.i64 (lGet x (iNat 1) 0)))))) ((0, []), false) (bSel (iLt (loopV (lc_spec_UnpackKeymap_1 x) (lf_spec_UnpackKeymap_1 x) (2, 0, [])).2.1 (iConv Go.IntKind.i64 (lGet x (iNat 1) 0))) ((0, []), false) (bSel (bNot (v_spec_IsKeymap ((iConv Go.IntKind.i64 (lGet x (iNat 0) 0)), (loopV (lc_spec_UnpackKeymap_1 x) (lf_spec_UnpackKeymap_1 x) (2, 0, [])).2.2))) ((0, []), false) (((iConv Go.IntKind.i64 (lGet x (iNat 0) 0)), (loopV (lc_spec_UnpackKeymap_1 x) (lf_spec_UnpackKeymap_1 x) (2, 0, [])).2.2), true)))) := (vu_spec_UnpackKeymap x).trans (by kernel_rfl)
theorem oe_spec_UnpackKeymap (x : List (Int)) : ok_spec_UnpackKeymap x = ((((iLt (lLen x) 2) = true → True) ∧ ((iLt (lLen x) 2) = false → ((((0 : Int) ≤ 0) ∧ ((0 : Int) < (((List.length x) : Int)))) ∧ (((iNat 0) < (List.length x)) ∧ ((((0 : Int) ≤ 1) ∧ ((1 : Int) < (((List.length x) : Int)))) ∧ ((iNat 1) < (List.length x))))))) ∧ (((bOr (iLt (lLen x) 2) (iNe (lLen x) (iAdd Go.IntKind.i64 2 (iMul Go.IntKind.i64 (iMul Go.IntKind.i64 3 (iConv Go.IntKind.i64 (lGet x (iNat 0) 0))) (iConv Go.IntKind.i64 (lGet x (iNat 1) 0)))))) = true → True) ∧ ((bOr (iLt (lLen x) 2) (iNe (lLen x) (iAdd Go.IntKind.i64 2 (iMul Go.IntKind.i64 (iMul Go.IntKind.i64 3 (iConv Go.IntKind.i64 (lGet x (iNat 0) 0))) (iConv Go.IntKind.i64 (lGet x (iNat 1) 0)))))) = false → ((((0 : Int) ≤ 0) ∧ ((0 : Int) < (((List.length x) : Int)))) ∧ (((iNat 0) < (List.length x)) ∧ ((LoopOk (lc_spec_UnpackKeymap_1 x) (lf_spec_UnpackKeymap_1 x) (lp_spec_UnpackKeymap_1 x) (2, 0, [])) ∧ (((iLt (loopV (lc_spec_UnpackKeymap_1 x) (lf_spec_UnpackKeymap_1 x) (2, 0, [])).2.1 (iConv Go.IntKind.i64 (lGet x (iNat 1) 0))) = true → True) ∧ ((iLt (loopV (lc_spec_UnpackKeymap_1 x) (lf_spec_UnpackKeymap_1 x) (2, 0, [])).2.1 (iConv Go.IntKind.i64 (lGet x (iNat 1) 0))) = false → (ok_spec_IsKeymap ((iConv Go.IntKind.i64 (lGet x (iNat 0) 0)), (loopV (lc_spec_UnpackKeymap_1 x) (lf_spec_UnpackKeymap_1 x) (2, 0, [])).2.2)))))))))) := (ou_spec_UnpackKeymap x).trans (by kernel_rfl)
noncomputable def lc_impl_UnpackKeymap_2 (x : List (Int)) (x1 : (Int × ((List (Int × (Int × (Int × Int)))) × Int))) : Bool := (bAnd (iLt x1.2.2 (iConv Go.IntKind.i64 (lGet x (iNat 0) 0))) (bNot (bNot (v_impl_UnpackAction (lSub x (iNat x1.1) (iNat (iAdd Go.IntKind.i64 x1.1 3)))).2)))
noncomputable def lf_impl_UnpackKeymap_2 (x : List (Int)) (x1 : (Int × ((List (Int × (Int × (Int × Int)))) × Int))) : (Int × ((List (Int × (Int × (Int × Int)))) × Int)) := ((iAdd Go.IntKind.i64 x1.1 3), (lApp x1.2.1 [(v_impl_UnpackAction (lSub x (iNat x1.1) (iNat (iAdd Go.IntKind.i64 x1.1 3)))).1]), (iAdd Go.IntKind.i64 x1.2.2 1))
noncomputable def lc_impl_UnpackKeymap_1 (x : List (Int)) (x0 : (Int × (Int × (List (List (Int × (Int × (Int × Int)))))))) : Bool := (bAnd (iLt x0.2.1 (iConv Go.IntKind.i64 (lGet x (iNat 1) 0))) (bNot (iLt (loopV (lc_impl_UnpackKeymap_2 x) (lf_impl_UnpackKeymap_2 x) (x0.1, [], 0)).2.2 (iConv Go.IntKind.i64 (lGet x (iNat 0) 0)))))
noncomputable def lf_impl_UnpackKeymap_1 (x : List (Int)) (x0 : (Int × (Int × (List (List (Int × (Int × (Int × Int)))))))) : (Int × (Int × (List (List (Int × (Int × (Int × Int))))))) := ((loopV (lc_impl_UnpackKeymap_2 x) (lf_impl_UnpackKeymap_2 x) (x0.1, [], 0)).1, (iAdd Go.IntKind.i64 x0.2.1 1), (lApp x0.2.2 [(loopV (lc_impl_UnpackKeymap_2 x) (lf_impl_UnpackKeymap_2 x) (x0.1, [], 0)).2.1]))
noncomputable def lp_impl_UnpackKeymap_2 (x : List (Int)) (x1 : (Int × ((List (Int × (Int × (Int × Int)))) × Int))) : Prop := (((iLt x1.2.2 (iConv Go.IntKind.i64 (lGet x (iNat 0) 0))) = true → (((((0 : Int) ≤ x1.1) ∧ ((0 : Int) ≤ (iAdd Go.IntKind.i64 x1.1 3))) ∧ (((iNat x1.1) ≤ (iNat (iAdd Go.IntKind.i64 x1.1 3))) ∧ (((iNat (iAdd Go.IntKind.i64 x1.1 3)) ≤ (List.length x)) ∧ (0 < (List.length x))))) ∧ ((ok_impl_UnpackAction (lSub x (iNat x1.1) (iNat (iAdd Go.IntKind.i64 x1.1 3)))) ∧ (((bNot (v_impl_UnpackAction (lSub x (iNat x1.1) (iNat (iAdd Go.IntKind.i64 x1.1 3)))).2) = true → True) ∧ ((bNot (v_impl_UnpackAction (lSub x (iNat x1.1) (iNat (iAdd Go.IntKind.i64 x1.1 3)))).2) = false → (roomy (((List.length x1.2.1) + (List.length [(v_impl_UnpackAction (lSub x (iNat x1.1) (iNat (iAdd Go.IntKind.i64 x1.1 3)))).1])) * 4))))))) ∧ ((iLt x1.2.2 (iConv Go.IntKind.i64 (lGet x (iNat 0) 0))) = false → True))
noncomputable def lp_impl_UnpackKeymap_1 (x : List (Int)) (x0 : (Int × (Int × (List (List (Int × (Int × (Int × Int)))))))) : Prop := (((iLt x0.2.1 (iConv Go.IntKind.i64 (lGet x (iNat 1) 0))) = true → ((LoopOk (lc_impl_UnpackKeymap_2 x) (lf_impl_UnpackKeymap_2 x) (lp_impl_UnpackKeymap_2 x) (x0.1, [], 0)) ∧ (((iLt (loopV (lc_impl_UnpackKeymap_2 x) (lf_impl_UnpackKeymap_2 x) (x0.1, [], 0)).2.2 (iConv Go.IntKind.i64 (lGet x (iNat 0) 0))) = true → True) ∧ ((iLt (loopV (lc_impl_UnpackKeymap_2 x) (lf_impl_UnpackKeymap_2 x) (x0.1, [], 0)).2.2 (iConv Go.IntKind.i64 (lGet x (iNat 0) 0))) = false → (roomy (((List.length x0.2.2) + (List.length [(loopV (lc_impl_UnpackKeymap_2 x) (lf_impl_UnpackKeymap_2 x) (x0.1, [], 0)).2.1])) * 1)))))) ∧ ((iLt x0.2.1 (iConv Go.IntKind.i64 (lGet x (iNat 1) 0))) = false → True))
theorem ve_impl_UnpackKeymap (x : List (Int)) : v_impl_UnpackKeymap x = (bSel (bOr (iLt (lLen x) 2) (iNe (lLen x) (iAdd Go.IntKind.i64 2 (iMul Go.IntKind.i64 (iMul Go.IntKind.i64 3 (iConv Go.IntKind.i64 (lGet x (iNat 0) 0))) (iConv Go.IntKind.i64 (lGet x (iNat 1) 0)))))) ((0, []), false) (bSel (iLt (loopV (lc_impl_UnpackKeymap_1 x) (lf_impl_UnpackKeymap_1 x) (2, 0, [])).2.1 (iConv Go.IntKind.i64 (lGet x (iNat 1) 0))) ((0, []), false) (bSel (bNot (v_impl_IsKeymap ((iConv Go.IntKind.i64 (lGet x (iNat 0) 0)), (loopV (lc_impl_UnpackKeymap_1 x) (lf_impl_UnpackKeymap_1 x) (2, 0, [])).2.2))) ((0, []), false) (((iConv Go.IntKind.i64 (lGet x (iNat 0) 0)), (loopV (lc_impl_UnpackKeymap_1 x) (lf_impl_UnpackKeymap_1 x) (2, 0, [])).2.2), true)))) := (vu_impl_UnpackKeymap x).trans (by kernel_rfl)
theorem oe_impl_UnpackKeymap (x : List (Int)) : ok_impl_UnpackKeymap x = ((((iLt (lLen x) 2) = true → True) ∧ ((iLt (lLen x) 2) = false → ((((0 : Int) ≤ 0) ∧ ((0 : Int) < (((List.length x) : Int)))) ∧ (((iNat 0) < (List.length x)) ∧ ((((0 : Int) ≤ 1) ∧ ((1 : Int) < (((List.length x) : Int)))) ∧ ((iNat 1) < (List.length x))))))) ∧ (((bOr (iLt (lLen x) 2) (iNe (lLen x) (iAdd Go.IntKind.i64 2 (iMul Go.IntKind.i64 (iMul Go.IntKind.i64 3 (iConv Go.IntKind.i64 (lGet x (iNat 0) 0))) (iConv Go.IntKind.i64 (lGet x (iNat 1) 0)))))) = true → True) ∧ ((bOr (iLt (lLen x) 2) (iNe (lLen x) (iAdd Go.IntKind.i64 2 (iMul Go.IntKind.i64 (iMul Go.IntKind.i64 3 (iConv Go.IntKind.i64 (lGet x (iNat 0) 0))) (iConv Go.IntKind.i64 (lGet x (iNat 1) 0)))))) = false → ((((0 : Int) ≤ 0) ∧ ((0 : Int) < (((List.length x) : Int)))) ∧ (((iNat 0) < (List.length x)) ∧ ((((0 : Int) ≤ 1) ∧ ((1 : Int) < (((List.length x) : Int)))) ∧ (((iNat 1) < (List.length x)) ∧ ((LoopOk (lc_impl_UnpackKeymap_1 x) (lf_impl_UnpackKeymap_1 x) (lp_impl_UnpackKeymap_1 x) (2, 0, [])) ∧ (((iLt (loopV (lc_impl_UnpackKeymap_1 x) (lf_impl_UnpackKeymap_1 x) (2, 0, [])).2.1 (iConv Go.IntKind.i64 (lGet x (iNat 1) 0))) = true → True) ∧ ((iLt (loopV (lc_impl_UnpackKeymap_1 x) (lf_impl_UnpackKeymap_1 x) (2, 0, [])).2.1 (iConv Go.IntKind.i64 (lGet x (iNat 1) 0))) = false → (ok_impl_IsKeymap ((iConv Go.IntKind.i64 (lGet x (iNat 0) 0)), (loopV (lc_impl_UnpackKeymap_1 x) (lf_impl_UnpackKeymap_1 x) (2, 0, [])).2.2)))))))))))) := (ou_impl_UnpackKeymap x).trans (by kernel_rfl)
theorem ve_laws_heldActionS (x : (List (Int × Int × Int × Int)) × Int) : v_laws_heldActionS x = (bSel (iLt (loopV (fun (x0 : (Int × Int)) => (bAnd (iLt x0.2 (lLen x.1)) (bAnd (bNot (iNe (lGet x.1 (iNat x0.2) (0, 0, 0, 0)).1 x0.1)) (bAnd (bNot (iNe (lGet x.1 (iNat x0.2) (0, 0, 0, 0)).2.1 (iAdd Go.IntKind.i64 x0.1 1))) (bAnd (bNot (iNe (lGet x.1 (iNat x0.2) (0, 0, 0, 0)).2.2.1 (iAdd Go.IntKind.i64 (iAdd Go.IntKind.i64 x0.1 1) 1))) (bNot (iNe (lGet x.1 (iNat x0.2) (0, 0, 0, 0)).2.2.2 (iAdd Go.IntKind.i64 (iAdd Go.IntKind.i64 (iAdd Go.IntKind.i64 x0.1 1) 1) 1)))))))) (fun (x0 : (Int × Int)) => ((iAdd Go.IntKind.i64 (iAdd Go.IntKind.i64 (iAdd Go.IntKind.i64 (iAdd Go.IntKind.i64 x0.1 1) 1) 1) 1), (iAdd Go.IntKind.i64 x0.2 1))) (x.2, 0)).2 (lLen x.1)) (bSel (iNe (lGet x.1 (iNat (loopV (fun (x0 : (Int × Int)) => (bAnd (iLt x0.2 (lLen x.1)) (bAnd (bNot (iNe (lGet x.1 (iNat x0.2) (0, 0, 0, 0)).1 x0.1)) (bAnd (bNot (iNe (lGet x.1 (iNat x0.2) (0, 0, 0, 0)).2.1 (iAdd Go.IntKind.i64 x0.1 1))) (bAnd (bNot (iNe (lGet x.1 (iNat x0.2) (0, 0, 0, 0)).2.2.1 (iAdd Go.IntKind.i64 (iAdd Go.IntKind.i64 x0.1 1) 1))) (bNot (iNe (lGet x.1 (iNat x0.2) (0, 0, 0, 0)).2.2.2 (iAdd Go.IntKind.i64 (iAdd Go.IntKind.i64 (iAdd Go.IntKind.i64 x0.1 1) 1) 1)))))))) (fun (x0 : (Int × Int)) => ((iAdd Go.IntKind.i64 (iAdd Go.IntKind.i64 (iAdd Go.IntKind.i64 (iAdd Go.IntKind.i64 x0.1 1) 1) 1) 1), (iAdd Go.IntKind.i64 x0.2 1))) (x.2, 0)).2) (0, 0, 0, 0)).1 (loopV (fun (x0 : (Int × Int)) => (bAnd (iLt x0.2 (lLen x.1)) (bAnd (bNot (iNe (lGet x.1 (iNat x0.2) (0, 0, 0, 0)).1 x0.1)) (bAnd (bNot (iNe (lGet x.1 (iNat x0.2) (0, 0, 0, 0)).2.1 (iAdd Go.IntKind.i64 x0.1 1))) (bAnd (bNot (iNe (lGet x.1 (iNat x0.2) (0, 0, 0, 0)).2.2.1 (iAdd Go.IntKind.i64 (iAdd Go.IntKind.i64 x0.1 1) 1))) (bNot (iNe (lGet x.1 (iNat x0.2) (0, 0, 0, 0)).2.2.2 (iAdd Go.IntKind.i64 (iAdd Go.IntKind.i64 (iAdd Go.IntKind.i64 x0.1 1) 1) 1)))))))) (fun (x0 : (Int × Int)) => ((iAdd Go.IntKind.i64 (iAdd Go.IntKind.i64 (iAdd Go.IntKind.i64 (iAdd Go.IntKind.i64 x0.1 1) 1) 1) 1), (iAdd Go.IntKind.i64 x0.2 1))) (x.2, 0)).1) (-1) (bSel (iNe (lGet x.1 (iNat (loopV (fun (x0 : (Int × Int)) => (bAnd (iLt x0.2 (lLen x.1)) (bAnd (bNot (iNe (lGet x.1 (iNat x0.2) (0, 0, 0, 0)).1 x0.1)) (bAnd (bNot (iNe (lGet x.1 (iNat x0.2) (0, 0, 0, 0)).2.1 (iAdd Go.IntKind.i64 x0.1 1))) (bAnd (bNot (iNe (lGet x.1 (iNat x0.2) (0, 0, 0, 0)).2.2.1 (iAdd Go.IntKind.i64 (iAdd Go.IntKind.i64 x0.1 1) 1))) (bNot (iNe (lGet x.1 (iNat x0.2) (0, 0, 0, 0)).2.2.2 (iAdd Go.IntKind.i64 (iAdd Go.IntKind.i64 (iAdd Go.IntKind.i64 x0.1 1) 1) 1)))))))) (fun (x0 : (Int × Int)) => ((iAdd Go.IntKind.i64 (iAdd Go.IntKind.i64 (iAdd Go.IntKind.i64 (iAdd Go.IntKind.i64 x0.1 1) 1) 1) 1), (iAdd Go.IntKind.i64 x0.2 1))) (x.2, 0)).2) (0, 0, 0, 0)).2.1 (iAdd Go.IntKind.i64 (loopV (fun (x0 : (Int × Int)) => (bAnd (iLt x0.2 (lLen x.1)) (bAnd (bNot (iNe (lGet x.1 (iNat x0.2) (0, 0, 0, 0)).1 x0.1)) (bAnd (bNot (iNe (lGet x.1 (iNat x0.2) (0, 0, 0, 0)).2.1 (iAdd Go.IntKind.i64 x0.1 1))) (bAnd (bNot (iNe (lGet x.1 (iNat x0.2) (0, 0, 0, 0)).2.2.1 (iAdd Go.IntKind.i64 (iAdd Go.IntKind.i64 x0.1 1) 1))) (bNot (iNe (lGet x.1 (iNat x0.2) (0, 0, 0, 0)).2.2.2 (iAdd Go.IntKind.i64 (iAdd Go.IntKind.i64 (iAdd Go.IntKind.i64 x0.1 1) 1) 1)))))))) (fun (x0 : (Int × Int)) => ((iAdd Go.IntKind.i64 (iAdd Go.IntKind.i64 (iAdd Go.IntKind.i64 (iAdd Go.IntKind.i64 x0.1 1) 1) 1) 1), (iAdd Go.IntKind.i64 x0.2 1))) (x.2, 0)).1 1)) (-1) (bSel (iNe (lGet x.1 (iNat (loopV (fun (x0 : (Int × Int)) => (bAnd (iLt x0.2 (lLen x.1)) (bAnd (bNot (iNe (lGet x.1 (iNat x0.2) (0, 0, 0, 0)).1 x0.1)) (bAnd (bNot (iNe (lGet x.1 (iNat x0.2) (0, 0, 0, 0)).2.1 (iAdd Go.IntKind.i64 x0.1 1))) (bAnd (bNot (iNe (lGet x.1 (iNat x0.2) (0, 0, 0, 0)).2.2.1 (iAdd Go.IntKind.i64 (iAdd Go.IntKind.i64 x0.1 1) 1))) (bNot (iNe (lGet x.1 (iNat x0.2) (0, 0, 0, 0)).2.2.2 (iAdd Go.IntKind.i64 (iAdd Go.IntKind.i64 (iAdd Go.IntKind.i64 x0.1 1) 1) 1)))))))) (fun (x0 : (Int × Int)) => ((iAdd Go.IntKind.i64 (iAdd Go.IntKind.i64 (iAdd Go.IntKind.i64 (iAdd Go.IntKind.i64 x0.1 1) 1) 1) 1), (iAdd Go.IntKind.i64 x0.2 1))) (x.2, 0)).2) (0, 0, 0, 0)).2.2.1 (iAdd Go.IntKind.i64 (iAdd Go.IntKind.i64 (loopV (fun (x0 : (Int × Int)) => (bAnd (iLt x0.2 (lLen x.1)) (bAnd (bNot (iNe (lGet x.1 (iNat x0.2) (0, 0, 0, 0)).1 x0.1)) (bAnd (bNot (iNe (lGet x.1 (iNat x0.2) (0, 0, 0, 0)).2.1 (iAdd Go.IntKind.i64 x0.1 1))) (bAnd (bNot (iNe (lGet x.1 (iNat x0.2) (0, 0, 0, 0)).2.2.1 (iAdd Go.IntKind.i64 (iAdd Go.IntKind.i64 x0.1 1) 1))) (bNot (iNe (lGet x.1 (iNat x0.2) (0, 0, 0, 0)).2.2.2 (iAdd Go.IntKind.i64 (iAdd Go.IntKind.i64 (iAdd Go.IntKind.i64 x0.1 1) 1) 1)))))))) (fun (x0 : (Int × Int)) => ((iAdd Go.IntKind.i64 (iAdd Go.IntKind.i64 (iAdd Go.IntKind.i64 (iAdd Go.IntKind.i64 x0.1 1) 1) 1) 1), (iAdd Go.IntKind.i64 x0.2 1))) (x.2, 0)).1 1) 1)) (-1) (-1)))) (loopV (fun (x0 : (Int × Int)) => (bAnd (iLt x0.2 (lLen x.1)) (bAnd (bNot (iNe (lGet x.1 (iNat x0.2) (0, 0, 0, 0)).1 x0.1)) (bAnd (bNot (iNe (lGet x.1 (iNat x0.2) (0, 0, 0, 0)).2.1 (iAdd Go.IntKind.i64 x0.1 1))) (bAnd (bNot (iNe (lGet x.1 (iNat x0.2) (0, 0, 0, 0)).2.2.1 (iAdd Go.IntKind.i64 (iAdd Go.IntKind.i64 x0.1 1) 1))) (bNot (iNe (lGet x.1 (iNat x0.2) (0, 0, 0, 0)).2.2.2 (iAdd Go.IntKind.i64 (iAdd Go.IntKind.i64 (iAdd Go.IntKind.i64 x0.1 1) 1) 1)))))))) (fun (x0 : (Int × Int)) => ((iAdd Go.IntKind.i64 (iAdd Go.IntKind.i64 (iAdd Go.IntKind.i64 (iAdd Go.IntKind.i64 x0.1 1) 1) 1) 1), (iAdd Go.IntKind.i64 x0.2 1))) (x.2, 0)).1) := (vu_laws_heldActionS x).trans (by kernel_rfl)
theorem oe_laws_heldActionS (x : (List (Int × Int × Int × Int)) × Int) : ok_laws_heldActionS x = (LoopOk (fun (x0 : (Int × Int)) => (bAnd (iLt x0.2 (lLen x.1)) (bAnd (bNot (iNe (lGet x.1 (iNat x0.2) (0, 0, 0, 0)).1 x0.1)) (bAnd (bNot (iNe (lGet x.1 (iNat x0.2) (0, 0, 0, 0)).2.1 (iAdd Go.IntKind.i64 x0.1 1))) (bAnd (bNot (iNe (lGet x.1 (iNat x0.2) (0, 0, 0, 0)).2.2.1 (iAdd Go.IntKind.i64 (iAdd Go.IntKind.i64 x0.1 1) 1))) (bNot (iNe (lGet x.1 (iNat x0.2) (0, 0, 0, 0)).2.2.2 (iAdd Go.IntKind.i64 (iAdd Go.IntKind.i64 (iAdd Go.IntKind.i64 x0.1 1) 1) 1)))))))) (fun (x0 : (Int × Int)) => ((iAdd Go.IntKind.i64 (iAdd Go.IntKind.i64 (iAdd Go.IntKind.i64 (iAdd Go.IntKind.i64 x0.1 1) 1) 1) 1), (iAdd Go.IntKind.i64 x0.2 1))) (fun (x0 : (Int × Int)) => (((iLt x0.2 (lLen x.1)) = true → ((((0 : Int) ≤ x0.2) ∧ (x0.2 < (((List.length x.1) : Int)))) ∧ (((iNat x0.2) < (List.length x.1)) ∧ (((iNe (lGet x.1 (iNat x0.2) (0, 0, 0, 0)).1 x0.1) = true → True) ∧ ((iNe (lGet x.1 (iNat x0.2) (0, 0, 0, 0)).1 x0.1) = false → ((((0 : Int) ≤ x0.2) ∧ (x0.2 < (((List.length x.1) : Int)))) ∧ (((iNat x0.2) < (List.length x.1)) ∧ (((iNe (lGet x.1 (iNat x0.2) (0, 0, 0, 0)).2.1 (iAdd Go.IntKind.i64 x0.1 1)) = true → True) ∧ ((iNe (lGet x.1 (iNat x0.2) (0, 0, 0, 0)).2.1 (iAdd Go.IntKind.i64 x0.1 1)) = false → ((((0 : Int) ≤ x0.2) ∧ (x0.2 < (((List.length x.1) : Int)))) ∧ (((iNat x0.2) < (List.length x.1)) ∧ (((iNe (lGet x.1 (iNat x0.2) (0, 0, 0, 0)).2.2.1 (iAdd Go.IntKind.i64 (iAdd Go.IntKind.i64 x0.1 1) 1)) = true → True) ∧ ((iNe (lGet x.1 (iNat x0.2) (0, 0, 0, 0)).2.2.1 (iAdd Go.IntKind.i64 (iAdd Go.IntKind.i64 x0.1 1) 1)) = false → ((((0 : Int) ≤ x0.2) ∧ (x0.2 < (((List.length x.1) : Int)))) ∧ ((iNat x0.2) < (List.length x.1)))))))))))))))) ∧ ((iLt x0.2 (lLen x.1)) = false → True))) (x.2, 0)) := (ou_laws_heldActionS x).trans (by kernel_rfl)
theorem ve_laws_heldActionSS (x : (List (List (Int × Int × Int × Int))) × Int) : v_laws_heldActionSS x = (bSel (iLt (loopV (fun (x0 : (Int × Int)) => (bAnd (iLt x0.2 (lLen x.1)) (bNot (iLt (v_laws_heldActionS ((lGet x.1 (iNat x0.2) []), x0.1)) 0)))) (fun (x0 : (Int × Int)) => ((v_laws_heldActionS ((lGet x.1 (iNat x0.2) []), x0.1)), (iAdd Go.IntKind.i64 x0.2 1))) (x.2, 0)).2 (lLen x.1)) (-1) (loopV (fun (x0 : (Int × Int)) => (bAnd (iLt x0.2 (lLen x.1)) (bNot (iLt (v_laws_heldActionS ((lGet x.1 (iNat x0.2) []), x0.1)) 0)))) (fun (x0 : (Int × Int)) => ((v_laws_heldActionS ((lGet x.1 (iNat x0.2) []), x0.1)), (iAdd Go.IntKind.i64 x0.2 1))) (x.2, 0)).1) := (vu_laws_heldActionSS x).trans (by kernel_rfl)
theorem oe_laws_heldActionSS (x : (List (List (Int × Int × Int × Int))) × Int) : ok_laws_heldActionSS x = (LoopOk (fun (x0 : (Int × Int)) => (bAnd (iLt x0.2 (lLen x.1)) (bNot (iLt (v_laws_heldActionS ((lGet x.1 (iNat x0.2) []), x0.1)) 0)))) (fun (x0 : (Int × Int)) => ((v_laws_heldActionS ((lGet x.1 (iNat x0.2) []), x0.1)), (iAdd Go.IntKind.i64 x0.2 1))) (fun (x0 : (Int × Int)) => (((iLt x0.2 (lLen x.1)) = true → ((((0 : Int) ≤ x0.2) ∧ (x0.2 < (((List.length x.1) : Int)))) ∧ (((iNat x0.2) < (List.length x.1)) ∧ (ok_laws_heldActionS ((lGet x.1 (iNat x0.2) []), x0.1))))) ∧ ((iLt x0.2 (lLen x.1)) = false → True))) (x.2, 0)) := (ou_laws_heldActionSS x).trans (by kernel_rfl)
theorem ve_laws_heldKeymap (x : (Int × (List (List (Int × Int × Int × Int)))) × Int) : v_laws_heldKeymap x = (bSel (iLt (v_laws_heldActionSS (x.1.2, x.2)) 0) (-1) (v_laws_heldActionSS (x.1.2, x.2))) := (vu_laws_heldKeymap x).trans (by kernel_rfl)
theorem oe_laws_heldKeymap (x : (Int × (List (List (Int × Int × Int × Int)))) × Int) : ok_laws_heldKeymap x = (ok_laws_heldActionSS (x.1.2, x.2)) := (ou_laws_heldKeymap x).trans (by kernel_rfl)
theorem ve_laws_FnExactUnpackKeymap (x : List (Int)) : v_laws_FnExactUnpackKeymap x = (bOr (iGt (lLen x) 1048576) (bAnd (bNot (bOr (bNot (v_laws_eqKeymap ((v_impl_UnpackKeymap (v_laws_toByteS x)).1, (v_spec_UnpackKeymap (v_laws_toByteS x)).1))) (bNot (bIff (v_impl_UnpackKeymap (v_laws_toByteS x)).2 (v_spec_UnpackKeymap (v_laws_toByteS x)).2)))) (bAnd (bNot (bNot (v_laws_eqByteS ((v_laws_toByteS x), (v_laws_toByteS x))))) (bAnd (bNot (bOr (iLt (mg_laws_markByteS (v_laws_toByteS x) 1).2 0) (bOr (bNot (v_laws_eqKeymap ((v_impl_UnpackKeymap (v_laws_toByteS x)).1, (v_spec_UnpackKeymap (v_laws_toByteS x)).1))) (bNot (bIff (v_impl_UnpackKeymap (v_laws_toByteS x)).2 (v_spec_UnpackKeymap (v_laws_toByteS x)).2))))) (bAnd (bNot (iLt (v_laws_heldKeymap (((v_impl_UnpackKeymap (v_laws_toByteS x)).1.1, (mg_laws_markKeymap (v_impl_UnpackKeymap (v_laws_toByteS x)).1 1).1.2), 1)) 0)) (bAnd (bNot (iNe (v_laws_heldKeymap (((v_impl_UnpackKeymap (v_laws_toByteS x)).1.1, (mg_laws_markKeymap (v_impl_UnpackKeymap (v_laws_toByteS x)).1 1).1.2), 1)) (mg_laws_markKeymap (v_impl_UnpackKeymap (v_laws_toByteS x)).1 1).2)) (bAnd (bNot (bOr (bNot (v_laws_eqKeymap ((v_impl_UnpackKeymap (v_laws_toByteS x)).1, (v_spec_UnpackKeymap (v_laws_toByteS x)).1))) (bNot (bIff (v_impl_UnpackKeymap (v_laws_toByteS x)).2 (v_spec_UnpackKeymap (v_laws_toByteS x)).2)))) (bAnd (bNot (iLt (v_laws_heldKeymap (((v_impl_UnpackKeymap (v_laws_toByteS x)).1.1, (mg_laws_markKeymap (v_impl_UnpackKeymap (v_laws_toByteS x)).1 1).1.2), 1)) 0)) (bNot (iNe (v_laws_heldKeymap (((v_impl_UnpackKeymap (v_laws_toByteS x)).1.1, (mg_laws_markKeymap (v_impl_UnpackKeymap (v_laws_toByteS x)).1 1).1.2), 1)) (mg_laws_markKeymap (v_impl_UnpackKeymap (v_laws_toByteS x)).1 1).2)))))))))) := (vu_laws_FnExactUnpackKeymap x).trans (by kernel_rfl)
theorem oe_laws_FnExactUnpackKeymap (x : List (Int)) : ok_laws_FnExactUnpackKeymap x = (((iGt (lLen x) 1048576) = true → True) ∧ ((iGt (lLen x) 1048576) = false → ((ok_laws_toByteS x) ∧ ((ok_spec_UnpackKeymap (v_laws_toByteS x)) ∧ ((ok_laws_toByteS x) ∧ ((ok_impl_UnpackKeymap (v_laws_toByteS x)) ∧ ((ok_laws_eqKeymap ((v_impl_UnpackKeymap (v_laws_toByteS x)).1, (v_spec_UnpackKeymap (v_laws_toByteS x)).1)) ∧ (((bOr (bNot (v_laws_eqKeymap ((v_impl_UnpackKeymap (v_laws_toByteS x)).1, (v_spec_UnpackKeymap (v_laws_toByteS x)).1))) (bNot (bIff (v_impl_UnpackKeymap (v_laws_toByteS x)).2 (v_spec_UnpackKeymap (v_laws_toByteS x)).2))) = true → True) ∧ ((bOr (bNot (v_laws_eqKeymap ((v_impl_UnpackKeymap (v_laws_toByteS x)).1, (v_spec_UnpackKeymap (v_laws_toByteS x)).1))) (bNot (bIff (v_impl_UnpackKeymap (v_laws_toByteS x)).2 (v_spec_UnpackKeymap (v_laws_toByteS x)).2))) = false → ((ok_laws_toByteS x) ∧ ((ok_laws_eqByteS ((v_laws_toByteS x), (v_laws_toByteS x))) ∧ (((bNot (v_laws_eqByteS ((v_laws_toByteS x), (v_laws_toByteS x)))) = true → True) ∧ ((bNot (v_laws_eqByteS ((v_laws_toByteS x), (v_laws_toByteS x)))) = false → ((((List.length (v_laws_toByteS x)) = (List.length (v_laws_toByteS x))) ∧ (DMk.ok (DMk.mk (RT.one (CT.sl (RT.one (CT.int Go.IntKind.u8)))) false mok_laws_markByteS mg_laws_markByteS) (v_laws_toByteS x))) ∧ ((((iLt (mg_laws_markByteS (v_laws_toByteS x) 1).2 0) = true → True) ∧ ((iLt (mg_laws_markByteS (v_laws_toByteS x) 1).2 0) = false → (ok_laws_eqKeymap ((v_impl_UnpackKeymap (v_laws_toByteS x)).1, (v_spec_UnpackKeymap (v_laws_toByteS x)).1)))) ∧ (((bOr (iLt (mg_laws_markByteS (v_laws_toByteS x) 1).2 0) (bOr (bNot (v_laws_eqKeymap ((v_impl_UnpackKeymap (v_laws_toByteS x)).1, (v_spec_UnpackKeymap (v_laws_toByteS x)).1))) (bNot (bIff (v_impl_UnpackKeymap (v_laws_toByteS x)).2 (v_spec_UnpackKeymap (v_laws_toByteS x)).2)))) = true → True) ∧ ((bOr (iLt (mg_laws_markByteS (v_laws_toByteS x) 1).2 0) (bOr (bNot (v_laws_eqKeymap ((v_impl_UnpackKeymap (v_laws_toByteS x)).1, (v_spec_UnpackKeymap (v_laws_toByteS x)).1))) (bNot (bIff (v_impl_UnpackKeymap (v_laws_toByteS x)).2 (v_spec_UnpackKeymap (v_laws_toByteS x)).2)))) = false → ((((List.length (v_impl_UnpackKeymap (v_laws_toByteS x)).1.2) = (List.length (v_impl_UnpackKeymap (v_laws_toByteS x)).1.2)) ∧ (DMk.ok (DMk.mk (RT.cons (CT.int Go.IntKind.i64) (RT.one (CT.sl (RT.one (CT.sl (RT.cons (CT.int Go.IntKind.i64) (RT.cons (CT.int Go.IntKind.i64) (RT.cons (CT.int Go.IntKind.i64) (RT.one (CT.int Go.IntKind.i64)))))))))) true mok_laws_markKeymap mg_laws_markKeymap) (v_impl_UnpackKeymap (v_laws_toByteS x)).1)) ∧ ((ok_laws_heldKeymap (((v_impl_UnpackKeymap (v_laws_toByteS x)).1.1, (mg_laws_markKeymap (v_impl_UnpackKeymap (v_laws_toByteS x)).1 1).1.2), 1)) ∧ (((iLt (v_laws_heldKeymap (((v_impl_UnpackKeymap (v_laws_toByteS x)).1.1, (mg_laws_markKeymap (v_impl_UnpackKeymap (v_laws_toByteS x)).1 1).1.2), 1)) 0) = true → True) ∧ ((iLt (v_laws_heldKeymap (((v_impl_UnpackKeymap (v_laws_toByteS x)).1.1, (mg_laws_markKeymap (v_impl_UnpackKeymap (v_laws_toByteS x)).1 1).1.2), 1)) 0) = false → (((iNe (v_laws_heldKeymap (((v_impl_UnpackKeymap (v_laws_toByteS x)).1.1, (mg_laws_markKeymap (v_impl_UnpackKeymap (v_laws_toByteS x)).1 1).1.2), 1)) (mg_laws_markKeymap (v_impl_UnpackKeymap (v_laws_toByteS x)).1 1).2) = true → True) ∧ ((iNe (v_laws_heldKeymap (((v_impl_UnpackKeymap (v_laws_toByteS x)).1.1, (mg_laws_markKeymap (v_impl_UnpackKeymap (v_laws_toByteS x)).1 1).1.2), 1)) (mg_laws_markKeymap (v_impl_UnpackKeymap (v_laws_toByteS x)).1 1).2) = false → ((ok_laws_toByteS x) ∧ ((ok_impl_UnpackKeymap (v_laws_toByteS x)) ∧ ((ok_laws_eqKeymap ((v_impl_UnpackKeymap (v_laws_toByteS x)).1, (v_spec_UnpackKeymap (v_laws_toByteS x)).1)) ∧ (((bOr (bNot (v_laws_eqKeymap ((v_impl_UnpackKeymap (v_laws_toByteS x)).1, (v_spec_UnpackKeymap (v_laws_toByteS x)).1))) (bNot (bIff (v_impl_UnpackKeymap (v_laws_toByteS x)).2 (v_spec_UnpackKeymap (v_laws_toByteS x)).2))) = true → True) ∧ ((bOr (bNot (v_laws_eqKeymap ((v_impl_UnpackKeymap (v_laws_toByteS x)).1, (v_spec_UnpackKeymap (v_laws_toByteS x)).1))) (bNot (bIff (v_impl_UnpackKeymap (v_laws_toByteS x)).2 (v_spec_UnpackKeymap (v_laws_toByteS x)).2))) = false → (ok_laws_heldKeymap (((v_impl_UnpackKeymap (v_laws_toByteS x)).1.1, (mg_laws_markKeymap (v_impl_UnpackKeymap (v_laws_toByteS x)).1 1).1.2), 1)))))))))))))))))))))))))))))) := (ou_laws_FnExactUnpackKeymap x).trans (by kernel_rfl)
end
section
set_option maxRecDepth 20000
def mi_ActionS (a : Int × Int × Int × Int) (k : Int) : (Int × Int × Int × Int) × Int := ((k, (IntKind.i64.wrap (k + 1)), (IntKind.i64.wrap ((IntKind.i64.wrap (k + 1)) + 1)), (IntKind.i64.wrap ((IntKind.i64.wrap ((IntKind.i64.wrap (k + 1)) + 1)) + 1))), (IntKind.i64.wrap ((IntKind.i64.wrap ((IntKind.i64.wrap ((IntKind.i64.wrap (k + 1)) + 1)) + 1)) + 1)))
theorem mh_ActionS (x : List (Int × Int × Int × Int)) (h : sm_ActionS x) (m : Int) (h0 : 0 ≤ m) (h1 : m + 4194304 ≤ 2305843009213693952) : mok_laws_markActionS x ∧ (m ≤ (mg_laws_markActionS x m).2 ∧ (mg_laws_markActionS x m).2 ≤ m + 4194304) ∧ ok_laws_heldActionS ((mg_laws_markActionS x m).1, m) ∧ v_laws_heldActionS ((mg_laws_markActionS x m).1, m) = (mg_laws_markActionS x m).2 := by
  have hl : x.length ≤ 1048576 := h.1
  have hU : UpF mi_ActionS x 4 := by
    intro a ha k k0 k1
    have e0 : IntKind.i64.wrap (k + 1) = k + 1 := wrapP (by omega) (by omega)
    have e1 : IntKind.i64.wrap ((k + 1) + 1) = (k + 1) + 1 := wrapP (by omega) (by omega)
    have e2 : IntKind.i64.wrap (((k + 1) + 1) + 1) = ((k + 1) + 1) + 1 := wrapP (by omega) (by omega)
    have e3 : IntKind.i64.wrap ((((k + 1) + 1) + 1) + 1) = (((k + 1) + 1) + 1) + 1 := wrapP (by omega) (by omega)
    have ee : (mi_ActionS a k).2 = ((((k + 1) + 1) + 1) + 1) := by simp only [mi_ActionS, e0, e1, e2, e3]
    rw [ee]
    omega
  have hB : x.length * 4 ≤ 4194304 := mul_lim hl (by decide)
  have up := mkL_up (m := m) hU h0 (by omega)
  have hmg : mg_laws_markActionS x m = mkL mi_ActionS x m := by unfold mi_ActionS; rw [mgu_laws_markActionS]; rfl
  rw [hmg]
  have hL := mkL_len mi_ActionS x m
  have hg : ∀ i, i < x.length → (mkL mi_ActionS x m).1.getD i (0, 0, 0, 0) = (mi_ActionS (x.getD i (0, 0, 0, 0)) (mkPre mi_ActionS x m i).2).1 := fun i hi => mkL_getD _ _ _ hi _
  have hok : mok_laws_markActionS x := by rw [mou_laws_markActionS]; exact ⟨Nat.le_trans h.1 (by decide), fun a ha => ⟨trivial, trivial, trivial, trivial⟩⟩
  rw [oe_laws_heldActionS, ve_laws_heldActionS]
  dsimp only
  generalize (mkL mi_ActionS x m).1 = L at hL hg ⊢
  have key : LoopOk (fun (x0 : (Int × Int)) => (bAnd (iLt x0.2 (lLen L)) (bAnd (bNot (iNe (lGet L (iNat x0.2) (0, 0, 0, 0)).1 x0.1)) (bAnd (bNot (iNe (lGet L (iNat x0.2) (0, 0, 0, 0)).2.1 (iAdd Go.IntKind.i64 x0.1 1))) (bAnd (bNot (iNe (lGet L (iNat x0.2) (0, 0, 0, 0)).2.2.1 (iAdd Go.IntKind.i64 (iAdd Go.IntKind.i64 x0.1 1) 1))) (bNot (iNe (lGet L (iNat x0.2) (0, 0, 0, 0)).2.2.2 (iAdd Go.IntKind.i64 (iAdd Go.IntKind.i64 (iAdd Go.IntKind.i64 x0.1 1) 1) 1)))))))) (fun (x0 : (Int × Int)) => ((iAdd Go.IntKind.i64 (iAdd Go.IntKind.i64 (iAdd Go.IntKind.i64 (iAdd Go.IntKind.i64 x0.1 1) 1) 1) 1), (iAdd Go.IntKind.i64 x0.2 1))) (fun (x0 : (Int × Int)) => (((iLt x0.2 (lLen L)) = true → ((((0 : Int) ≤ x0.2) ∧ (x0.2 < (((List.length L) : Int)))) ∧ (((iNat x0.2) < (List.length L)) ∧ (((iNe (lGet L (iNat x0.2) (0, 0, 0, 0)).1 x0.1) = true → True) ∧ ((iNe (lGet L (iNat x0.2) (0, 0, 0, 0)).1 x0.1) = false → ((((0 : Int) ≤ x0.2) ∧ (x0.2 < (((List.length L) : Int)))) ∧ (((iNat x0.2) < (List.length L)) ∧ (((iNe (lGet L (iNat x0.2) (0, 0, 0, 0)).2.1 (iAdd Go.IntKind.i64 x0.1 1)) = true → True) ∧ ((iNe (lGet L (iNat x0.2) (0, 0, 0, 0)).2.1 (iAdd Go.IntKind.i64 x0.1 1)) = false → ((((0 : Int) ≤ x0.2) ∧ (x0.2 < (((List.length L) : Int)))) ∧ (((iNat x0.2) < (List.length L)) ∧ (((iNe (lGet L (iNat x0.2) (0, 0, 0, 0)).2.2.1 (iAdd Go.IntKind.i64 (iAdd Go.IntKind.i64 x0.1 1) 1)) = true → True) ∧ ((iNe (lGet L (iNat x0.2) (0, 0, 0, 0)).2.2.1 (iAdd Go.IntKind.i64 (iAdd Go.IntKind.i64 x0.1 1) 1)) = false → ((((0 : Int) ≤ x0.2) ∧ (x0.2 < (((List.length L) : Int)))) ∧ ((iNat x0.2) < (List.length L)))))))))))))))) ∧ ((iLt x0.2 (lLen L)) = false → True))) (m, 0) ∧ loopV (fun (x0 : (Int × Int)) => (bAnd (iLt x0.2 (lLen L)) (bAnd (bNot (iNe (lGet L (iNat x0.2) (0, 0, 0, 0)).1 x0.1)) (bAnd (bNot (iNe (lGet L (iNat x0.2) (0, 0, 0, 0)).2.1 (iAdd Go.IntKind.i64 x0.1 1))) (bAnd (bNot (iNe (lGet L (iNat x0.2) (0, 0, 0, 0)).2.2.1 (iAdd Go.IntKind.i64 (iAdd Go.IntKind.i64 x0.1 1) 1))) (bNot (iNe (lGet L (iNat x0.2) (0, 0, 0, 0)).2.2.2 (iAdd Go.IntKind.i64 (iAdd Go.IntKind.i64 (iAdd Go.IntKind.i64 x0.1 1) 1) 1)))))))) (fun (x0 : (Int × Int)) => ((iAdd Go.IntKind.i64 (iAdd Go.IntKind.i64 (iAdd Go.IntKind.i64 (iAdd Go.IntKind.i64 x0.1 1) 1) 1) 1), (iAdd Go.IntKind.i64 x0.2 1))) (m, 0) = ((mkL mi_ActionS x m).2, (x.length : Int)) := by
    refine held_loop hl (0, 0, 0, 0) (fun i hi => ?_) ?_
    · obtain ⟨b1, b2⟩ := mkPre_up (m := m) hU h0 (by omega) (0, 0, 0, 0) i (by omega)
      have bm : i * 4 + 4 ≤ x.length * 4 := mul_step hi
      have g := hg i hi
      have hlt : (i : Int) < (L.length : Int) := by omega
      have hlN : i < L.length := by omega
      have ha := getD_mem x i (0, 0, 0, 0) hi
      generalize (mkPre mi_ActionS x m i).2 = k at b1 b2 g ⊢
      generalize x.getD i (0, 0, 0, 0) = a at g ha ⊢
      have e0 : IntKind.i64.wrap (k + 1) = k + 1 := wrapP (by omega) (by omega)
      have e1 : IntKind.i64.wrap ((k + 1) + 1) = (k + 1) + 1 := wrapP (by omega) (by omega)
      have e2 : IntKind.i64.wrap (((k + 1) + 1) + 1) = ((k + 1) + 1) + 1 := wrapP (by omega) (by omega)
      have e3 : IntKind.i64.wrap ((((k + 1) + 1) + 1) + 1) = (((k + 1) + 1) + 1) + 1 := wrapP (by omega) (by omega)
      simp only [lGet_eq, iNat_eq, lLen_eq, Int.toNat_natCast, iAdd_def, iConv_def, iNe_eq, iLt_eq, iEq_eq, iRem_def, bAnd_eq, bNot_eq, bIff_eq, g, mi_ActionS, e0, e1, e2, e3]
      simp [hlt, hlN]
    · simp [iLt_eq, lLen_eq, hL, bAnd_eq]
  refine ⟨hok, ⟨up.1, by omega⟩, key.1, ?_⟩
  simp only [key.2]
  simp [bSel_eq, iLt_eq, lLen_eq, hL]
noncomputable def mi_ActionSS (a : List (Int × Int × Int × Int)) (k : Int) : (List (Int × Int × Int × Int)) × Int := ((mg_laws_markActionS a k).1, (mg_laws_markActionS a k).2)
theorem mh_ActionSS (x : List (List (Int × Int × Int × Int))) (h : sm_ActionSS x) (m : Int) (h0 : 0 ≤ m) (h1 : m + 4398046511104 ≤ 2305843009213693952) : mok_laws_markActionSS x ∧ (m ≤ (mg_laws_markActionSS x m).2 ∧ (mg_laws_markActionSS x m).2 ≤ m + 4398046511104) ∧ ok_laws_heldActionSS ((mg_laws_markActionSS x m).1, m) ∧ v_laws_heldActionSS ((mg_laws_markActionSS x m).1, m) = (mg_laws_markActionSS x m).2 := by
  have hl : x.length ≤ 1048576 := h.1
  have hU : UpF mi_ActionSS x 4194304 := by
    intro a ha k k0 k1
    obtain ⟨_, ⟨p0, q0⟩, y0, z0⟩ := mh_ActionS a (h.2 a ha) k (by omega) (by omega)
    have t0 : ¬ (mg_laws_markActionS a k).2 < 0 := by omega
    have ee : (mi_ActionSS a k).2 = (mg_laws_markActionS a k).2 := by simp only [mi_ActionSS]
    rw [ee]
    omega
  have hB : x.length * 4194304 ≤ 4398046511104 := mul_lim hl (by decide)
  have up := mkL_up (m := m) hU h0 (by omega)
  have hmg : mg_laws_markActionSS x m = mkL mi_ActionSS x m := by unfold mi_ActionSS; rw [mgu_laws_markActionSS, mgu_laws_markActionS]; rfl
  rw [hmg]
  have hL := mkL_len mi_ActionSS x m
  have hg : ∀ i, i < x.length → (mkL mi_ActionSS x m).1.getD i [] = (mi_ActionSS (x.getD i []) (mkPre mi_ActionSS x m i).2).1 := fun i hi => mkL_getD _ _ _ hi _
  have hok : mok_laws_markActionSS x := by rw [mou_laws_markActionSS]; exact ⟨Nat.le_trans h.1 (by decide), fun a ha => ⟨Nat.le_trans (h.2 a ha).1 (by decide), fun a ha => ⟨trivial, trivial, trivial, trivial⟩⟩⟩
  rw [oe_laws_heldActionSS, ve_laws_heldActionSS]
  dsimp only
  generalize (mkL mi_ActionSS x m).1 = L at hL hg ⊢
  have key : LoopOk (fun (x0 : (Int × Int)) => (bAnd (iLt x0.2 (lLen L)) (bNot (iLt (v_laws_heldActionS ((lGet L (iNat x0.2) []), x0.1)) 0)))) (fun (x0 : (Int × Int)) => ((v_laws_heldActionS ((lGet L (iNat x0.2) []), x0.1)), (iAdd Go.IntKind.i64 x0.2 1))) (fun (x0 : (Int × Int)) => (((iLt x0.2 (lLen L)) = true → ((((0 : Int) ≤ x0.2) ∧ (x0.2 < (((List.length L) : Int)))) ∧ (((iNat x0.2) < (List.length L)) ∧ (ok_laws_heldActionS ((lGet L (iNat x0.2) []), x0.1))))) ∧ ((iLt x0.2 (lLen L)) = false → True))) (m, 0) ∧ loopV (fun (x0 : (Int × Int)) => (bAnd (iLt x0.2 (lLen L)) (bNot (iLt (v_laws_heldActionS ((lGet L (iNat x0.2) []), x0.1)) 0)))) (fun (x0 : (Int × Int)) => ((v_laws_heldActionS ((lGet L (iNat x0.2) []), x0.1)), (iAdd Go.IntKind.i64 x0.2 1))) (m, 0) = ((mkL mi_ActionSS x m).2, (x.length : Int)) := by
    refine held_loop hl [] (fun i hi => ?_) ?_
    · obtain ⟨b1, b2⟩ := mkPre_up (m := m) hU h0 (by omega) [] i (by omega)
      have bm : i * 4194304 + 4194304 ≤ x.length * 4194304 := mul_step hi
      have g := hg i hi
      have hlt : (i : Int) < (L.length : Int) := by omega
      have hlN : i < L.length := by omega
      have ha := getD_mem x i [] hi
      generalize (mkPre mi_ActionSS x m i).2 = k at b1 b2 g ⊢
      generalize x.getD i [] = a at g ha ⊢
      obtain ⟨_, ⟨p0, q0⟩, y0, z0⟩ := mh_ActionS a (h.2 a ha) k (by omega) (by omega)
      have t0 : ¬ (mg_laws_markActionS a k).2 < 0 := by omega
      simp only [lGet_eq, iNat_eq, lLen_eq, Int.toNat_natCast, iAdd_def, iConv_def, iNe_eq, iLt_eq, iEq_eq, iRem_def, bAnd_eq, bNot_eq, bIff_eq, g, mi_ActionSS, y0, z0, t0]
      simp [hlt, hlN, y0, z0, t0]
    · simp [iLt_eq, lLen_eq, hL, bAnd_eq]
  refine ⟨hok, ⟨up.1, by omega⟩, key.1, ?_⟩
  simp only [key.2]
  simp [bSel_eq, iLt_eq, lLen_eq, hL]
theorem mh_Keymap (x : Int × (List (List (Int × Int × Int × Int)))) (h : sm_Keymap x) (m : Int) (h0 : 0 ≤ m) (h1 : m + 4398046511104 ≤ 2305843009213693952) : mok_laws_markKeymap x ∧ (m ≤ (mg_laws_markKeymap x m).2 ∧ (mg_laws_markKeymap x m).2 ≤ m + 4398046511104) ∧ ok_laws_heldKeymap ((x.1, (mg_laws_markKeymap x m).1.2), m) ∧ v_laws_heldKeymap ((x.1, (mg_laws_markKeymap x m).1.2), m) = (mg_laws_markKeymap x m).2 := by
  unfold sm_Keymap at h
  obtain ⟨k0, ⟨p0, q0⟩, y0, z0⟩ := mh_ActionSS x.2 h.1 m (by omega) (by omega)
  have t0 : ¬ (mg_laws_markActionSS x.2 m).2 < 0 := by omega
  have e : mg_laws_markKeymap x m = ((x.1, (mg_laws_markActionSS x.2 m).1), (mg_laws_markActionSS x.2 m).2) := by rw [mgu_laws_markKeymap, mgu_laws_markActionSS]; rfl
  have hok : mok_laws_markKeymap x := by rw [mou_laws_markKeymap]; exact ⟨trivial, ⟨Nat.le_trans h.1.1 (by decide), fun a ha => ⟨Nat.le_trans (h.1.2 a ha).1 (by decide), fun a ha => ⟨trivial, trivial, trivial, trivial⟩⟩⟩⟩
  rw [e]
  refine ⟨hok, ⟨by simp only; omega, by simp only; omega⟩, ?_, ?_⟩
  · rw [oe_laws_heldKeymap]; simp [iLt_eq, bSel_eq, y0, z0, t0]
  · rw [ve_laws_heldKeymap]; simp [iLt_eq, bSel_eq, y0, z0, t0]
end
theorem loop_two {X Y : Type} {c : X → Bool} {f : X → X} {p : X → Prop} {d : Y → Bool} {g : Y → Y} {q : Y → Prop} (R : X → Y → Prop) (m : X → Nat)
    (h : ∀ x y, R x y → p x ∧ q y ∧ c x = d y ∧ (c x = true → R (f x) (g y) ∧ m (f x) < m x)) {x0 : X} {y0 : Y} (h0 : R x0 y0) :
    LoopOk c f p x0 ∧ LoopOk d g q y0 ∧ R (loopV c f x0) (loopV d g y0) ∧ c (loopV c f x0) = false := by
  have go : ∀ (n : Nat) (x : X) (y : Y), m x < n → R x y → ∃ u v, LoopTo c f p x u ∧ LoopTo d g q y v ∧ R u v ∧ c u = false := by
    intro n
    induction n with
    | zero => intro x y hm; exact absurd hm (Nat.not_lt_zero _)
    | succ n ih =>
      intro x y hm hR
      obtain ⟨h1, h2, h3, h4⟩ := h x y hR
      cases hc : c x with
      | false => exact ⟨x, y, .stop h1 hc, .stop h2 (by rw [← h3]; exact hc), hR, hc⟩
      | true =>
        obtain ⟨h5, h6⟩ := h4 hc
        obtain ⟨u, v, a1, a2, a3, a4⟩ := ih _ _ (by omega) h5
        exact ⟨u, v, .go h1 hc a1, .go h2 (by rw [← h3]; exact hc) a2, a3, a4⟩
  obtain ⟨u, v, a1, a2, a3, a4⟩ := go _ x0 y0 (Nat.lt_succ_self _) h0
  exact ⟨⟨_, a1⟩, ⟨_, a2⟩, by rw [a1.val, a2.val]; exact a3, by rw [a1.val]; exact a4⟩
theorem conv_i64 {n : Int} (h0 : 0 ≤ n) (h1 : n < 9223372036854775808) : iConv .i64 n = n := iConv_i64 (by unfold In64; omega)
def Bytes (x : List Int) : Prop := ∀ a ∈ x, 0 ≤ a ∧ a < 256
theorem Bytes.get {x : List Int} (h : Bytes x) (i : Nat) : ∃ n : Nat, n < 256 ∧ x.getD i 0 = (n : Int) := by
  by_cases hi : i < x.length
  · obtain ⟨h0, h1⟩ := h _ (getD_mem x i 0 hi)
    exact ⟨(x.getD i 0).toNat, by omega, by omega⟩
  · exact ⟨0, by omega, by rw [List.getD_eq_getElem?_getD, List.getElem?_eq_none (by omega)]; rfl⟩
theorem Bytes.of {x : List Int} (h : CT.wf (.sl (.one (.int .u8))) x) : Bytes x := by
  intro a ha
  have := h.2 a ha
  simp only [RT.wf, CT.wf] at this
  have h : IntKind.u8.min ≤ a ∧ a ≤ IntKind.u8.max := by simpa [Lit.wf] using this
  have e1 : IntKind.u8.min = 0 := by decide
  have e2 : IntKind.u8.max = 255 := by decide
  rw [e1, e2] at h
  omega
theorem unk_c2 : lc_impl_UnpackKeymap_2 = lc_spec_UnpackKeymap_2 := by funext x s; simp only [lc_impl_UnpackKeymap_2, lc_spec_UnpackKeymap_2, unpack_eq]
theorem unk_f2 : lf_impl_UnpackKeymap_2 = lf_spec_UnpackKeymap_2 := by funext x s; simp only [lf_impl_UnpackKeymap_2, lf_spec_UnpackKeymap_2, unpack_eq]
theorem unk_c1 : lc_impl_UnpackKeymap_1 = lc_spec_UnpackKeymap_1 := by funext x s; simp only [lc_impl_UnpackKeymap_1, lc_spec_UnpackKeymap_1, unk_c2, unk_f2]
theorem unk_f1 : lf_impl_UnpackKeymap_1 = lf_spec_UnpackKeymap_1 := by funext x s; simp only [lf_impl_UnpackKeymap_1, lf_spec_UnpackKeymap_1, unk_c2, unk_f2]
theorem unkRow {x : List Int} {k : Nat} (hk : iConv .i64 (lGet x (iNat 0) 0) = (k : Int)) (hk2 : k < 256) {a : Nat} (ha : a + 3 * k ≤ x.length) (hl : x.length ≤ 1048576) :
    LoopOk (lc_spec_UnpackKeymap_2 x) (lf_spec_UnpackKeymap_2 x) (lp_spec_UnpackKeymap_2 x) ((a : Int), [], 0) ∧ LoopOk (lc_spec_UnpackKeymap_2 x) (lf_spec_UnpackKeymap_2 x) (lp_impl_UnpackKeymap_2 x) ((a : Int), [], 0) ∧
    (loopV (lc_spec_UnpackKeymap_2 x) (lf_spec_UnpackKeymap_2 x) ((a : Int), [], 0)).2.2 ≤ k ∧ (loopV (lc_spec_UnpackKeymap_2 x) (lf_spec_UnpackKeymap_2 x) ((a : Int), [], 0)).1 = a + 3 * (loopV (lc_spec_UnpackKeymap_2 x) (lf_spec_UnpackKeymap_2 x) ((a : Int), [], 0)).2.2 ∧
    (loopV (lc_spec_UnpackKeymap_2 x) (lf_spec_UnpackKeymap_2 x) ((a : Int), [], 0)).2.1.length ≤ 255 := by
  obtain ⟨b1, b2, ⟨b3, b4, b5, b6, b7⟩, _⟩ := loop_two (c := lc_spec_UnpackKeymap_2 x) (f := lf_spec_UnpackKeymap_2 x) (p := lp_spec_UnpackKeymap_2 x) (d := lc_spec_UnpackKeymap_2 x) (g := lf_spec_UnpackKeymap_2 x) (q := lp_impl_UnpackKeymap_2 x) (x0 := ((a : Int), [], 0)) (y0 := ((a : Int), [], 0))
    (fun s t => s = t ∧ 0 ≤ s.2.2 ∧ s.2.2 ≤ k ∧ s.1 = a + 3 * s.2.2 ∧ (s.2.1.length : Int) ≤ s.2.2) (fun s => (k - s.2.2).toNat) (by
      rintro ⟨e, l, j⟩ t ⟨rfl, h1, h2, h3, h4⟩
      simp only at h1 h2 h3 h4
      have e4 : iAdd .i64 j 1 = j + 1 := iAdd_i64 (by unfold In64; omega)
      have e5 : iAdd .i64 e 3 = e + 3 := iAdd_i64 (by unfold In64; omega)
      have i1 : iNat e = e.toNat := iNat_eq _
      have i2 : iNat (e + 3) = (e + 3).toNat := iNat_eq _
      refine ⟨?_, ?_, rfl, fun hcc => ?_⟩
      · simp only [lp_spec_UnpackKeymap_2, hk, iLt_eq, decide_eq_true_eq, e5, i1, i2, List.length_cons, List.length_nil]
        refine ⟨fun hj => ⟨⟨⟨by omega, by omega⟩, by omega, by omega, by omega⟩, (ok_unpack _).1, fun _ => trivial, fun _ => by unfold roomy; omega⟩, fun _ => trivial⟩
      · simp only [lp_impl_UnpackKeymap_2, hk, iLt_eq, decide_eq_true_eq, e5, i1, i2, List.length_cons, List.length_nil]
        refine ⟨fun hj => ⟨⟨⟨by omega, by omega⟩, by omega, by omega, by omega⟩, (ok_unpack _).2, fun _ => trivial, fun _ => by unfold roomy; omega⟩, fun _ => trivial⟩
      · simp only [lc_spec_UnpackKeymap_2, bAnd_eq, Bool.and_eq_true, hk, iLt_eq, decide_eq_true_eq] at hcc
        have hcc := hcc.1
        simp only [lf_spec_UnpackKeymap_2, e4, e5, lApp_eq, List.length_append, List.length_cons, List.length_nil]
        exact ⟨⟨trivial, by omega, by omega, by omega, by omega⟩, by omega⟩) ⟨rfl, by simp, by simp, by simp, by simp⟩
  exact ⟨b1, b2, b5, b6, by omega⟩
theorem unkLoop {x : List Int} {k n : Nat} (hk : iConv .i64 (lGet x (iNat 0) 0) = (k : Int)) (hk2 : k < 256) (hn : iConv .i64 (lGet x (iNat 1) 0) = (n : Int)) (hn2 : n < 256) (hl : x.length = 2 + 3 * (k * n)) (h2 : 2 ≤ x.length) (hl' : x.length ≤ 1048576) :
    LoopOk (lc_spec_UnpackKeymap_1 x) (lf_spec_UnpackKeymap_1 x) (lp_spec_UnpackKeymap_1 x) (2, 0, []) ∧ LoopOk (lc_spec_UnpackKeymap_1 x) (lf_spec_UnpackKeymap_1 x) (lp_impl_UnpackKeymap_1 x) (2, 0, []) ∧
    (loopV (lc_spec_UnpackKeymap_1 x) (lf_spec_UnpackKeymap_1 x) (2, 0, [])).2.2.length ≤ 255 ∧ ∀ r ∈ (loopV (lc_spec_UnpackKeymap_1 x) (lf_spec_UnpackKeymap_1 x) (2, 0, [])).2.2, r.length ≤ 255 := by
  obtain ⟨b1, b2, ⟨b3, b4, b5, b6, b7, b8⟩, _⟩ := loop_two (c := lc_spec_UnpackKeymap_1 x) (f := lf_spec_UnpackKeymap_1 x) (p := lp_spec_UnpackKeymap_1 x) (d := lc_spec_UnpackKeymap_1 x) (g := lf_spec_UnpackKeymap_1 x) (q := lp_impl_UnpackKeymap_1 x) (x0 := (2, 0, [])) (y0 := (2, 0, []))
    (fun s t => s = t ∧ 0 ≤ s.2.1 ∧ s.2.1 ≤ n ∧ s.1 = 2 + 3 * ((k * s.2.1.toNat : Nat) : Int) ∧ (s.2.2.length : Int) ≤ s.2.1 ∧ ∀ r ∈ s.2.2, r.length ≤ 255) (fun s => (n - s.2.1).toNat) (by
      rintro ⟨e, j, l⟩ t ⟨rfl, h1, h2, h3, h4, h5⟩
      simp only at h1 h2 h3 h4 h5
      obtain ⟨j, rfl⟩ : ∃ m : Nat, j = m := ⟨j.toNat, by omega⟩
      rw [Int.toNat_natCast] at h3
      have e4 : iAdd .i64 (j : Int) 1 = (j : Int) + 1 := iAdd_i64 (by unfold In64; omega)
      have hmul : j < n → k * (j + 1) ≤ k * n := fun hj => Nat.mul_le_mul_left _ hj
      have hexp : k * (j + 1) = k * j + k := by rw [Nat.mul_add, Nat.mul_one]
      have row : j < n → _ := fun hj => unkRow hk hk2 (a := 2 + 3 * (k * j)) (by have := hmul hj; omega) hl'
      have he : e = ((2 + 3 * (k * j) : Nat) : Int) := by omega
      subst he
      have n1 : iNat 1 < x.length := by rw [iNat_eq]; show 1 < _; omega
      refine ⟨?_, ?_, rfl, fun hcc => ?_⟩
      · simp only [lp_spec_UnpackKeymap_1, hn, hk, iLt_eq, decide_eq_true_eq, decide_eq_false_iff_not]
        refine ⟨⟨by omega, by omega⟩, n1, fun hj => ⟨(row (by omega)).1, fun _ => trivial, fun _ => ?_⟩, fun _ => trivial⟩
        unfold roomy; simp only [List.length_cons, List.length_nil]; omega
      · simp only [lp_impl_UnpackKeymap_1, unk_c2, unk_f2, hn, hk, iLt_eq, decide_eq_true_eq, decide_eq_false_iff_not]
        refine ⟨fun hj => ⟨(row (by omega)).2.1, fun _ => trivial, fun _ => ?_⟩, fun _ => trivial⟩
        unfold roomy; simp only [List.length_cons, List.length_nil]; omega
      · simp only [lc_spec_UnpackKeymap_1, bAnd_eq, bNot_eq, Bool.and_eq_true, Bool.not_eq_true', hn, hk, iLt_eq, decide_eq_true_eq, decide_eq_false_iff_not] at hcc
        obtain ⟨c1, c2⟩ := hcc
        obtain ⟨_, _, r3, r4, r5⟩ := row (by omega)
        simp only [lf_spec_UnpackKeymap_1, e4, lApp_eq, List.length_append, List.length_cons, List.length_nil]
        refine ⟨⟨trivial, by omega, by omega, ?_, by omega, fun r hr => ?_⟩, by omega⟩
        · rw [r4]
          have : ((j : Int) + 1).toNat = j + 1 := by omega
          rw [this, hexp]
          omega
        · rcases List.mem_append.1 hr with hr | hr
          · exact h5 r hr
          · rw [List.mem_singleton.1 hr]; exact r5) ⟨rfl, by simp, by simp, by simp, by simp, by simp⟩
  exact ⟨b1, b2, by omega, b8⟩
theorem unpackKeymap_two (x : List Int) (hx : Bytes x) (hl : x.length ≤ 1048576) : ok_spec_UnpackKeymap x ∧ ok_impl_UnpackKeymap x ∧ v_impl_UnpackKeymap x = v_spec_UnpackKeymap x ∧ sm_Keymap (v_spec_UnpackKeymap x).1 := by
  rw [oe_spec_UnpackKeymap, oe_impl_UnpackKeymap, ve_spec_UnpackKeymap, ve_impl_UnpackKeymap]
  simp only [unk_c1, unk_f1, isKeymap_eq]
  have sm0 : sm_Keymap ((0 : Int), ([] : List (List (Int × Int × Int × Int)))) := ⟨⟨by simp, by simp⟩, trivial⟩
  by_cases h2 : x.length < 2
  · have e1 : iLt (lLen x) 2 = true := by rw [iLt_eq, lLen_eq]; simp; omega
    simp only [e1, bOr_eq, Bool.true_or, bSel_t]
    exact ⟨by simp, by simp, trivial, sm0⟩
  · have e1 : iLt (lLen x) 2 = false := by rw [iLt_eq, lLen_eq]; simp; omega
    obtain ⟨k, hk2, g0⟩ := hx.get 0
    obtain ⟨n, hn2, g1⟩ := hx.get 1
    have hk : iConv .i64 (lGet x (iNat 0) 0) = (k : Int) := by rw [lGet_eq, iNat_eq]; show iConv .i64 (x.getD 0 0) = _; rw [g0, conv_i64 (by omega) (by omega)]
    have hn : iConv .i64 (lGet x (iNat 1) 0) = (n : Int) := by rw [lGet_eq, iNat_eq]; show iConv .i64 (x.getD 1 0) = _; rw [g1, conv_i64 (by omega) (by omega)]
    have i0 : iNat 0 < x.length := by rw [iNat_eq]; show 0 < _; omega
    have i1 : iNat 1 < x.length := by rw [iNat_eq]; show 1 < _; omega
    have j0 : (0 : Int) < (x.length : Int) := by omega
    have j2 : 0 < x.length := by omega
    have j1 : (1 : Int) < (x.length : Int) := by omega
    have hkn : k * n ≤ 255 * 255 := Nat.mul_le_mul (by omega) (by omega)
    have em : iAdd .i64 2 (iMul .i64 (iMul .i64 3 (k : Int)) (n : Int)) = ((2 + 3 * (k * n) : Nat) : Int) := by
      have e3 : (3 * (k : Int)) * (n : Int) = ((3 * (k * n) : Nat) : Int) := by push_cast; rw [Int.mul_assoc]
      rw [iMul_i64 (a := 3) (by unfold In64; omega), iMul_i64 (by rw [e3]; unfold In64; omega), e3, iAdd_i64 (by unfold In64; omega)]
      omega
    rw [hk, hn, em]
    by_cases hlen : x.length = 2 + 3 * (k * n)
    · have e2 : iNe (lLen x) ((2 + 3 * (k * n) : Nat) : Int) = false := by rw [iNe_eq, lLen_eq]; simp; omega
      obtain ⟨b1, b2, b3, b4⟩ := unkLoop hk hk2 hn hn2 hlen (by omega) hl
      generalize loopV (lc_spec_UnpackKeymap_1 x) (lf_spec_UnpackKeymap_1 x) (2, 0, []) = L at b3 b4 ⊢
      have smL : sm_Keymap ((k : Int), L.2.2) := ⟨⟨Nat.le_trans b3 (by decide), fun r hr => ⟨Nat.le_trans (b4 r hr) (by decide), fun a _ => by simp [sm_Action]⟩⟩, trivial⟩
      obtain ⟨a1, a2⟩ := ok_IsKeymap_t _ smL
      simp only [e1, e2]
      refine ⟨by simp [i0, i1, j0, j1, j2, b1, a1], by simp [i0, i1, j0, j1, j2, b2, a2], trivial, ?_⟩
      simp only [bOr_eq, Bool.or_false, bSel_f]
      rw [bSel_eq]; split
      · exact sm0
      · rw [bSel_eq]; split
        · exact sm0
        · exact smL
    · have e2 : iNe (lLen x) ((2 + 3 * (k * n) : Nat) : Int) = true := by rw [iNe_eq, lLen_eq]; simp; omega
      simp only [e1, e2, bOr_eq, Bool.false_or, bSel_t]
      exact ⟨by simp [i0, i1, j0, j1, j2], by simp [i0, i1, j0, j1, j2], trivial, sm0⟩
theorem plain_FnExactUnpackKeymap (x : List Int) (hw : TuX.wf h_laws_FnExactUnpackKeymap x) : ok_laws_FnExactUnpackKeymap x ∧ v_laws_FnExactUnpackKeymap x = true := by
  rw [oe_laws_FnExactUnpackKeymap, ve_laws_FnExactUnpackKeymap]
  by_cases hx : x.length ≤ 1048576
  · have hg : iGt (lLen x) 1048576 = false := by rw [iGt_eq, lLen_eq]; simp; omega
    obtain ⟨t1, t2⟩ := to_ByteS x hx
    obtain ⟨r1, r2, r3, hsm⟩ := unpackKeymap_two x (Bytes.of hw) hx
    rw [t2, r3]
    obtain ⟨q1, q2⟩ := eq_Keymap _ (v_spec_UnpackKeymap x).1 hsm
    have q2 := q2.2 rfl
    obtain ⟨b1, b2⟩ := eq_ByteS x x hx
    obtain ⟨m1, ⟨m2, m3⟩, _, _⟩ := mh_ByteS x hx 1 (by omega) (by omega)
    obtain ⟨n1, ⟨n2, n3⟩, n4, n5⟩ := mh_Keymap _ hsm 1 (by omega) (by omega)
    have c1 : iLt (mg_laws_markByteS x 1).2 0 = false := by rw [iLt_eq]; simp; omega
    have c2 : iLt (mg_laws_markKeymap (v_spec_UnpackKeymap x).1 1).2 0 = false := by rw [iLt_eq]; simp; omega
    have b3 := b2.2 rfl
    simp only [hg, t1, r1, r2, q1, q2, b1, b3, m1, n1, n4, n5, c1, c2]
    simp [bOr_eq, bAnd_eq, bNot_eq, bIff_eq, iNe_eq]
    all_goals exact n1
  · have hg : iGt (lLen x) 1048576 = true := by rw [iGt_eq, lLen_eq]; simp; omega
    simp only [hg]
    simp [bOr_eq]
end Go.Ag
