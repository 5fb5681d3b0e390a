/-
  Part 7 of what the law FnExactIsEngine needs: an abstract semantics proved sound, the program's functions in its form, plain Lean about them. No conditions.
-/
import Derived.KernelRfl
import Derived.Test.YthljgcjmaabnoaaLibF
namespace Go.Ag
set_option linter.unusedSimpArgs false
set_option linter.unusedVariables false
section
set_option maxRecDepth 8000
noncomputable def dc_spec_IsEngine : DCode :=
  (.seq [1] (.region [oa 0 1 (.boxB 0 7 (.t 0)),
 oa 1 2 (.mv (.c (.bool false)))])
  (.seq [1] (.seq [20, 1] (.region [oa 0 5 (.fieldA 0 (.t 1)),
 oa 1 6 (.loadB 0 (some 2) (.t 5)),
 oc 2 7 s_spec_IsKeymap p_spec_IsKeymap D_spec_IsKeymap [(.t 6)],
 oa 3 8 (.un .not (.t 7)),
 om 4 9 8,
 og 5 10 (.fieldA 2 (.t 1)) 9 false,
 og 6 11 (.loadB 0 none (.t 10)) 9 false,
 og 7 12 (.len (.t 11)) 9 false,
 og 8 13 (.bin .gtr (.t 12) (.c (.int .i64 4))) 9 false,
 oa 9 14 (.pick (.t 9) (.c (.bool true)) (.t 13)),
 om 10 15 14,
 og 11 16 (.fieldA 4 (.t 1)) 15 false,
 og 12 17 (.loadB 0 none (.t 16)) 15 false,
 ⟨13, some 18, .call false s_spec_IsHeld p_spec_IsHeld D_spec_IsHeld [(.t 17)], (some (15, false)), []⟩,
 og 14 19 (.un .not (.t 18)) 15 false,
 oa 15 20 (.pick (.t 15) (.c (.bool true)) (.t 19))])
  (.cond (.t 20) (.seq [2] (.region [oa 0 2 (.mv (.c (.bool false)))])
  .ret) .skip))
  (.seq [1] (.seq [3, 1] (.region [oi 0 3 0])
  (.block 0 (.loop [1, 3] 1 (.seq [3, 1] (.seq [25, 3, 1] (.region [om 0 21 3,
 oa 1 22 (.fieldA 2 (.t 1)),
 oa 2 23 (.loadB 0 none (.t 22)),
 oa 3 24 (.len (.t 23)),
 oa 4 25 (.bin .lss (.t 21) (.t 24))])
  (.cond (.t 25) .skip (.exit 0)))
  (.seq [3, 1] (.block 1 (.seq [34, 3, 1] (.region [oa 0 28 (.fieldA 2 (.t 1)),
 oa 1 29 (.loadB 0 none (.t 28)),
 om 2 30 3,
 oa 3 31 (.indexA 1 (.t 29) (.t 30)),
 oa 4 32 (.loadH none (.t 31)),
 oc 5 33 s_spec_IsMacro p_spec_IsMacro D_spec_IsMacro [(.t 32)],
 oa 6 34 (.un .not (.t 33))])
  (.cond (.t 34) (.seq [2] (.region [oa 0 2 (.mv (.c (.bool false)))])
  .ret) .skip)))
  (.region [om 0 26 3,
 oa 1 27 (.bin .add (.t 26) (.c (.int .i64 1))),
 om 2 3 27]))))))
  (.seq [1] (.seq [4, 1] (.region [oi 0 4 0])
  (.block 2 (.loop [1, 4] 1 (.seq [4, 1] (.seq [39, 4, 1] (.region [om 0 35 4,
 oa 1 36 (.fieldA 4 (.t 1)),
 oa 2 37 (.loadB 0 none (.t 36)),
 oa 3 38 (.len (.t 37)),
 oa 4 39 (.bin .lss (.t 35) (.t 38))])
  (.cond (.t 39) .skip (.exit 2)))
  (.seq [4, 1] (.block 3 (.seq [75, 4, 1] (.region [oa 0 42 (.fieldA 4 (.t 1)),
 xA 1 43 (.loadB 0 none (.t 42)) (rg 1),
 om 2 44 4,
 xA 3 45 (.indexA 5 (.t 43) (.t 44)) (rg 3),
 xA 4 46 (.fieldA 0 (.t 45)) (rg 4),
 xA 5 47 (.loadH none (.t 46)) (rg 5),
 oa 6 48 (.fieldA 0 (.t 1)),
 xA 7 49 (.fieldA 0 (.t 48)) [6],
 xA 8 50 (.loadB 0 none (.t 49)) [6, 7],
 xA 9 51 (.bin .geq (.t 47) (.t 50)) (rg 9),
 xA 10 52 (.mv (.t 51)) (rg 10),
 ⟨11, some 53, .a false (.fieldA 4 (.t 1)) none, (some (52, false)), [0, 1, 2, 3, 4, 5, 6, 7, 8, 9, 10]⟩,
 ⟨12, some 54, .a false (.loadB 0 none (.t 53)) none, (some (52, false)), [0, 1, 2, 3, 4, 5, 6, 7, 8, 9, 10, 11]⟩,
 ⟨13, some 55, .a false (.mv (.t 4)) none, (some (52, false)), [0, 1, 2, 3, 4, 5, 6, 7, 8, 9, 10]⟩,
 ⟨14, some 56, .a false (.indexA 5 (.t 54) (.t 55)) none, (some (52, false)), [0, 1, 2, 3, 4, 5, 6, 7, 8, 9, 10, 11, 12, 13]⟩,
 ⟨15, some 57, .a false (.fieldA 1 (.t 56)) none, (some (52, false)), [0, 1, 2, 3, 4, 5, 6, 7, 8, 9, 10, 11, 12, 13, 14]⟩,
 ⟨16, some 58, .a false (.fieldA 0 (.t 57)) none, (some (52, false)), [0, 1, 2, 3, 4, 5, 6, 7, 8, 9, 10, 11, 12, 13, 14, 15]⟩,
 ⟨17, some 59, .a false (.loadH none (.t 58)) none, (some (52, false)), [0, 1, 2, 3, 4, 5, 6, 7, 8, 9, 10, 11, 12, 13, 14, 15, 16]⟩,
 ⟨18, some 60, .a false (.bin .neq (.t 59) (.c (.int .i64 9))) none, (some (52, false)), [0, 1, 2, 3, 4, 5, 6, 7, 8, 9, 10, 11, 12, 13, 14, 15, 16, 17]⟩,
 ⟨19, some 61, .a false (.mv (.t 60)) none, (some (52, false)), [0, 1, 2, 3, 4, 5, 6, 7, 8, 9, 10, 11, 12, 13, 14, 15, 16, 17, 18]⟩,
 ⟨20, some 62, .a false (.fieldA 4 (.t 1)) none, (some (61, true)), [0, 1, 2, 3, 4, 5, 6, 7, 8, 9, 10, 11, 12, 13, 14, 15, 16, 17, 18, 19]⟩,
 ⟨21, some 63, .a false (.loadB 0 none (.t 62)) none, (some (61, true)), [0, 1, 2, 3, 4, 5, 6, 7, 8, 9, 10, 11, 12, 13, 14, 15, 16, 17, 18, 19, 20]⟩,
 ⟨22, some 64, .a false (.mv (.t 4)) none, (some (61, true)), [0, 1, 2, 3, 4, 5, 6, 7, 8, 9, 10, 11, 12, 13, 14, 15, 16, 17, 18, 19]⟩,
 ⟨23, some 65, .a false (.indexA 5 (.t 63) (.t 64)) none, (some (61, true)), [0, 1, 2, 3, 4, 5, 6, 7, 8, 9, 10, 11, 12, 13, 14, 15, 16, 17, 18, 19, 20, 21, 22]⟩,
 ⟨24, some 66, .a false (.fieldA 1 (.t 65)) none, (some (61, true)), [0, 1, 2, 3, 4, 5, 6, 7, 8, 9, 10, 11, 12, 13, 14, 15, 16, 17, 18, 19, 20, 21, 22, 23]⟩,
 ⟨25, some 67, .a false (.fieldA 3 (.t 66)) none, (some (61, true)), [0, 1, 2, 3, 4, 5, 6, 7, 8, 9, 10, 11, 12, 13, 14, 15, 16, 17, 18, 19, 20, 21, 22, 23, 24]⟩,
 ⟨26, some 68, .a false (.loadH none (.t 67)) none, (some (61, true)), [0, 1, 2, 3, 4, 5, 6, 7, 8, 9, 10, 11, 12, 13, 14, 15, 16, 17, 18, 19, 20, 21, 22, 23, 24, 25]⟩,
 ⟨27, some 69, .a false (.fieldA 0 (.t 1)) none, (some (61, true)), [0, 1, 2, 3, 4, 5, 6, 7, 8, 9, 10, 11, 12, 13, 14, 15, 16, 17, 18, 19]⟩,
 ⟨28, some 70, .a false (.fieldA 1 (.t 69)) none, (some (61, true)), [0, 1, 2, 3, 4, 5, 6, 7, 8, 9, 10, 11, 12, 13, 14, 15, 16, 17, 18, 19, 27]⟩,
 ⟨29, some 71, .a false (.loadB 0 none (.t 70)) none, (some (61, true)), [0, 1, 2, 3, 4, 5, 6, 7, 8, 9, 10, 11, 12, 13, 14, 15, 16, 17, 18, 19, 27, 28]⟩,
 ⟨30, some 72, .a false (.len (.t 71)) none, (some (61, true)), [0, 1, 2, 3, 4, 5, 6, 7, 8, 9, 10, 11, 12, 13, 14, 15, 16, 17, 18, 19, 27, 28, 29]⟩,
 ⟨31, some 73, .a false (.bin .geq (.t 68) (.t 72)) none, (some (61, true)), [0, 1, 2, 3, 4, 5, 6, 7, 8, 9, 10, 11, 12, 13, 14, 15, 16, 17, 18, 19, 20, 21, 22, 23, 24, 25, 26, 27, 28, 29, 30]⟩,
 ⟨32, some 74, .a false (.pick (.t 61) (.t 73) (.c (.bool false))) none, (some (52, false)), [0, 1, 2, 3, 4, 5, 6, 7, 8, 9, 10, 11, 12, 13, 14, 15, 16, 17, 18, 19, 20, 21, 22, 23, 24, 25, 26, 27, 28, 29, 30, 31]⟩,
 xA 33 75 (.pick (.t 52) (.c (.bool true)) (.t 74)) (rg 33)])
  (.cond (.t 75) (.seq [2] (.region [oa 0 2 (.mv (.c (.bool false)))])
  .ret) .skip)))
  (.region [om 0 40 4,
 oa 1 41 (.bin .add (.t 40) (.c (.int .i64 1))),
 om 2 4 41]))))))
  (.seq [2] (.region [oa 0 76 (.fieldA 3 (.t 1)),
 xA 1 77 (.loadB 0 none (.t 76)) (rg 1),
 oa 2 78 (.fieldA 0 (.t 1)),
 xA 3 79 (.fieldA 1 (.t 78)) [2],
 xA 4 80 (.loadB 0 none (.t 79)) [2, 3],
 xA 5 81 (.len (.t 80)) [2, 3, 4],
 xA 6 82 (.bin .shl (.c (.int .i64 1)) (.t 81)) [2, 3, 4, 5],
 xA 7 83 (.bin .sub (.t 82) (.c (.int .i64 1))) [2, 3, 4, 5, 6],
 xC 8 84 s_spec_l1In p_spec_l1In D_spec_l1In [(.t 77), (.c (.int .i64 0)), (.t 83)] (rg 8),
 xA 9 85 (.mv (.t 84)) (rg 9),
 ⟨10, some 86, .a false (.fieldA 3 (.t 1)) none, (some (85, true)), [0, 1, 2, 3, 4, 5, 6, 7, 8, 9]⟩,
 ⟨11, some 87, .a false (.loadB 0 none (.t 86)) none, (some (85, true)), [0, 1, 2, 3, 4, 5, 6, 7, 8, 9, 10]⟩,
 ⟨12, some 88, .a false (.bin .rem (.t 87) (.c (.int .i64 2))) none, (some (85, true)), [0, 1, 2, 3, 4, 5, 6, 7, 8, 9, 10, 11]⟩,
 ⟨13, some 89, .a false (.bin .eql (.t 88) (.c (.int .i64 0))) none, (some (85, true)), [0, 1, 2, 3, 4, 5, 6, 7, 8, 9, 10, 11, 12]⟩,
 xA 14 90 (.pick (.t 85) (.t 89) (.c (.bool false))) (rg 14),
 xA 15 91 (.mv (.t 90)) (rg 15),
 ⟨16, some 92, .a false (.fieldA 5 (.t 1)) none, (some (91, true)), [0, 1, 2, 3, 4, 5, 6, 7, 8, 9, 10, 11, 12, 13, 14, 15]⟩,
 ⟨17, some 93, .a false (.loadB 0 none (.t 92)) none, (some (91, true)), [0, 1, 2, 3, 4, 5, 6, 7, 8, 9, 10, 11, 12, 13, 14, 15, 16]⟩,
 ⟨18, some 94, .call false s_spec_l1In p_spec_l1In D_spec_l1In [(.t 93), (.c (.int .i64 0)), (.c (.int .i64 15))], (some (91, true)), [0, 1, 2, 3, 4, 5, 6, 7, 8, 9, 10, 11, 12, 13, 14, 15, 16, 17]⟩,
 xA 19 95 (.pick (.t 91) (.t 94) (.c (.bool false))) (rg 19),
 xA 20 2 (.mv (.t 95)) (rg 20)])
  .ret)))))
noncomputable def df_spec_IsEngine : DFun := ⟨1, 96, 1, true, [.tmp 2], dc_spec_IsEngine⟩
noncomputable def pf_spec_IsEngine : PFun := df_spec_IsEngine.er
noncomputable def f_spec_IsEngine : AFun := pf_spec_IsEngine.er
@[irreducible] noncomputable def s_spec_IsEngine : CallSem := funSem f_spec_IsEngine
@[irreducible] noncomputable def p_spec_IsEngine : PSem := pfunSem pf_spec_IsEngine
theorem sp_spec_IsEngine : SoundP s_spec_IsEngine p_spec_IsEngine := by unfold s_spec_IsEngine p_spec_IsEngine; exact pfun_sound (f := pf_spec_IsEngine) ⟨sp_spec_IsKeymap, sp_spec_IsHeld, sp_spec_IsMacro, sp_spec_l1In, sp_spec_l1In, trivial⟩
def h_spec_IsEngine : List HT := [.agg [(.frz, .int .i64), (.frz, .sl (.one (.sl (.cons (.int .i64) (.cons (.int .i64) (.cons (.int .i64) (.one (.int .i64)))))))), (.frz, .sl (.one (.sl (.cons (.int .i64) (.cons (.int .i64) (.one (.int .i64))))))), (.frz, .int .i64), (.frz, .sl (.cons (.int .i64) (.cons (.int .i64) (.cons (.int .i64) (.cons (.int .i64) (.one (.int .i64))))))), (.frz, .int .i64), (.frz, .bool)]]
def q_spec_IsEngine : QT := .one (.one .own (.bool))
@[irreducible] noncomputable def v_spec_IsEngine (x : Int × (List (List (Int × Int × Int × Int))) × (List (List (Int × Int × Int))) × Int × (List (Int × Int × Int × Int × Int)) × Int × Bool) : Bool := (shut fun x => fnV df_spec_IsEngine h_spec_IsEngine q_spec_IsEngine x).1 x
@[irreducible] noncomputable def ok_spec_IsEngine (x : Int × (List (List (Int × Int × Int × Int))) × (List (List (Int × Int × Int))) × Int × (List (Int × Int × Int × Int × Int)) × Int × Bool) : Prop := (shut fun x => fnOk df_spec_IsEngine h_spec_IsEngine q_spec_IsEngine x).1 x
theorem vu_spec_IsEngine (x : Int × (List (List (Int × Int × Int × Int))) × (List (List (Int × Int × Int))) × Int × (List (Int × Int × Int × Int × Int)) × Int × Bool) : v_spec_IsEngine x = fnV df_spec_IsEngine h_spec_IsEngine q_spec_IsEngine x := by unfold v_spec_IsEngine; exact congrFun (shut _).2 x
theorem ou_spec_IsEngine (x : Int × (List (List (Int × Int × Int × Int))) × (List (List (Int × Int × Int))) × Int × (List (Int × Int × Int × Int × Int)) × Int × Bool) : ok_spec_IsEngine x = fnOk df_spec_IsEngine h_spec_IsEngine q_spec_IsEngine x := by unfold ok_spec_IsEngine; exact congrFun (shut _).2 x
noncomputable def D_spec_IsEngine : DSem := DSemOf h_spec_IsEngine q_spec_IsEngine ok_spec_IsEngine v_spec_IsEngine
theorem ck_spec_IsEngine (x : Int × (List (List (Int × Int × Int × Int))) × (List (List (Int × Int × Int))) × Int × (List (Int × Int × Int × Int × Int)) × Int × Bool) : fnChk df_spec_IsEngine h_spec_IsEngine q_spec_IsEngine x = true := by kernel_rfl
theorem ob_spec_IsEngine : AllD df_spec_IsEngine.body.obs := ⟨sd_spec_IsKeymap, sd_spec_IsHeld, sd_spec_IsMacro, sd_spec_l1In, sd_spec_l1In, trivial⟩
theorem st_spec_IsEngine : fnSt df_spec_IsEngine h_spec_IsEngine q_spec_IsEngine = true := by kernel_rfl
theorem sd_spec_IsEngine : SoundD p_spec_IsEngine D_spec_IsEngine := by unfold p_spec_IsEngine; exact soundD_of (f := df_spec_IsEngine) (hs := h_spec_IsEngine) (q := q_spec_IsEngine) ob_spec_IsEngine st_spec_IsEngine ck_spec_IsEngine (fun x h => Eq.mp (ou_spec_IsEngine x) h) (fun x => (vu_spec_IsEngine x).symm)
noncomputable def dc_impl_IsEngine : DCode :=
  (.seq [1] (.region [oa 0 1 (.boxB 0 7 (.t 0)),
 oa 1 2 (.mv (.c (.bool false)))])
  (.seq [1] (.seq [33, 1] (.region [oa 0 8 (.fieldA 0 (.t 1)),
 oa 1 9 (.loadB 0 (some 2) (.t 8)),
 oc 2 10 s_impl_IsKeymap p_impl_IsKeymap D_impl_IsKeymap [(.t 9)],
 oa 3 11 (.un .not (.t 10)),
 om 4 12 11,
 og 5 13 (.fieldA 2 (.t 1)) 12 false,
 og 6 14 (.loadB 0 none (.t 13)) 12 false,
 og 7 15 (.len (.t 14)) 12 false,
 og 8 16 (.bin .gtr (.t 15) (.c (.int .i64 4))) 12 false,
 oa 9 17 (.pick (.t 12) (.c (.bool true)) (.t 16)),
 om 10 18 17,
 og 11 19 (.fieldA 4 (.t 1)) 18 false,
 og 12 20 (.loadB 0 none (.t 19)) 18 false,
 ⟨13, some 21, .call false s_impl_IsHeld p_impl_IsHeld D_impl_IsHeld [(.t 20)], (some (18, false)), []⟩,
 og 14 22 (.un .not (.t 21)) 18 false,
 oa 15 23 (.pick (.t 18) (.c (.bool true)) (.t 22)),
 om 16 24 23,
 og 17 25 (.fieldA 5 (.t 1)) 24 false,
 og 18 26 (.loadB 0 none (.t 25)) 24 false,
 og 19 27 (.bin .lss (.t 26) (.c (.int .i64 0))) 24 false,
 oa 20 28 (.pick (.t 24) (.c (.bool true)) (.t 27)),
 om 21 29 28,
 og 22 30 (.fieldA 5 (.t 1)) 29 false,
 og 23 31 (.loadB 0 none (.t 30)) 29 false,
 og 24 32 (.bin .gtr (.t 31) (.c (.int .i64 15))) 29 false,
 oa 25 33 (.pick (.t 29) (.c (.bool true)) (.t 32))])
  (.cond (.t 33) (.seq [2] (.region [oa 0 2 (.mv (.c (.bool false)))])
  .ret) .skip))
  (.seq [1] (.seq [37, 36, 35, 1] (.region [oa 0 34 (.fieldA 2 (.t 1)),
 oa 1 35 (.loadB 0 none (.t 34)),
 oa 2 36 (.len (.t 35)),
 oi 3 37 0])
  (.block 0 (.loop [1, 35, 36, 37] 1 (.seq [38, 37, 36, 35, 1] (.region [oa 0 38 (.bin .lss (.t 37) (.t 36))])
  (.seq [37, 36, 35, 1] (.cond (.t 38) .skip (.exit 0))
  (.seq [37, 36, 35, 1] (.block 1 (.seq [37, 36, 35, 4, 1] (.region [oa 0 39 (.indexA 1 (.t 35) (.t 37)),
 oa 1 40 (.loadH none (.t 39)),
 on 2 4 40])
  (.seq [43, 37, 36, 35, 1] (.region [on 0 41 4,
 oc 1 42 s_impl_IsMacro p_impl_IsMacro D_impl_IsMacro [(.t 41)],
 oa 2 43 (.un .not (.t 42))])
  (.cond (.t 43) (.seq [2] (.region [oa 0 2 (.mv (.c (.bool false)))])
  .ret) .skip))))
  (.region [oa 0 44 (.bin .add (.t 37) (.c (.int .i64 1))),
 om 1 37 44])))))))
  (.seq [5, 1] (.region [oa 0 45 (.fieldA 0 (.t 1)),
 oa 1 46 (.fieldA 1 (.t 45)),
 oa 2 47 (.loadB 0 none (.t 46)),
 oa 3 48 (.len (.t 47)),
 om 4 5 48])
  (.seq [5, 1] (.seq [52, 51, 50, 5, 1] (.region [oa 0 49 (.fieldA 4 (.t 1)),
 oa 1 50 (.loadB 0 none (.t 49)),
 oa 2 51 (.len (.t 50)),
 oi 3 52 0])
  (.block 2 (.loop [1, 5, 50, 51, 52] 1 (.seq [53, 52, 51, 50, 5, 1] (.region [oa 0 53 (.bin .lss (.t 52) (.t 51))])
  (.seq [52, 51, 50, 5, 1] (.cond (.t 53) .skip (.exit 2))
  (.seq [52, 51, 50, 5, 1] (.block 3 (.seq [52, 51, 50, 7, 5, 1] (.region [oa 0 54 (.indexA 5 (.t 50) (.t 52)),
 ob 1 55 (.loadH (some 5) (.t 54)),
 oa 2 7 (.allocB 1 [(.int .i64 0), (.int .i64 0), (.int .i64 0), (.int .i64 0), (.int .i64 0)]),
 os 3 (.storeB 1 5 (.t 7) (.t 55))])
  (.seq [74, 52, 51, 50, 5, 1] (.region [oa 0 56 (.fieldA 0 (.t 7)),
 oa 1 57 (.loadB 1 none (.t 56)),
 oa 2 58 (.fieldA 0 (.t 1)),
 oa 3 59 (.fieldA 0 (.t 58)),
 oa 4 60 (.loadB 0 none (.t 59)),
 oa 5 61 (.bin .geq (.t 57) (.t 60)),
 om 6 62 61,
 og 7 63 (.fieldA 1 (.t 7)) 62 false,
 og 8 64 (.fieldA 0 (.t 63)) 62 false,
 og 9 65 (.loadB 1 none (.t 64)) 62 false,
 og 10 66 (.bin .neq (.t 65) (.c (.int .i64 9))) 62 false,
 og 11 67 (.mv (.t 66)) 62 false,
 og 12 68 (.fieldA 1 (.t 7)) 67 true,
 og 13 69 (.fieldA 3 (.t 68)) 67 true,
 og 14 70 (.loadB 1 none (.t 69)) 67 true,
 og 15 71 (.mv (.t 5)) 67 true,
 og 16 72 (.bin .geq (.t 70) (.t 71)) 67 true,
 og 17 73 (.pick (.t 67) (.t 72) (.c (.bool false))) 62 false,
 oa 18 74 (.pick (.t 62) (.c (.bool true)) (.t 73))])
  (.cond (.t 74) (.seq [2] (.region [oa 0 2 (.mv (.c (.bool false)))])
  .ret) .skip))))
  (.region [oa 0 75 (.bin .add (.t 52) (.c (.int .i64 1))),
 om 1 52 75])))))))
  (.seq [2] (.region [oa 0 76 (.fieldA 3 (.t 1)),
 xA 1 77 (.loadB 0 none (.t 76)) (rg 1),
 xA 2 78 (.bin .geq (.t 77) (.c (.int .i64 0))) (rg 2),
 xA 3 79 (.mv (.t 78)) (rg 3),
 ⟨4, some 80, .a false (.fieldA 3 (.t 1)) none, (some (79, true)), [0, 1, 2, 3]⟩,
 ⟨5, some 81, .a false (.loadB 0 none (.t 80)) none, (some (79, true)), [0, 1, 2, 3, 4]⟩,
 ⟨6, some 82, .a false (.bin .rem (.t 81) (.c (.int .i64 2))) none, (some (79, true)), [0, 1, 2, 3, 4, 5]⟩,
 ⟨7, some 83, .a false (.bin .eql (.t 82) (.c (.int .i64 0))) none, (some (79, true)), [0, 1, 2, 3, 4, 5, 6]⟩,
 xA 8 84 (.pick (.t 79) (.t 83) (.c (.bool false))) (rg 8),
 xA 9 85 (.mv (.t 84)) (rg 9),
 ⟨10, some 86, .a false (.fieldA 3 (.t 1)) none, (some (85, true)), [0, 1, 2, 3, 4, 5, 6, 7, 8, 9]⟩,
 ⟨11, some 87, .a false (.loadB 0 none (.t 86)) none, (some (85, true)), [0, 1, 2, 3, 4, 5, 6, 7, 8, 9, 10]⟩,
 ⟨12, some 88, .a false (.mv (.t 5)) none, (some (85, true)), [0, 1, 2, 3, 4, 5, 6, 7, 8, 9]⟩,
 ⟨13, some 89, .a false (.bin .shl (.c (.int .i64 1)) (.t 88)) none, (some (85, true)), [0, 1, 2, 3, 4, 5, 6, 7, 8, 9, 12]⟩,
 ⟨14, some 90, .a false (.bin .lss (.t 87) (.t 89)) none, (some (85, true)), [0, 1, 2, 3, 4, 5, 6, 7, 8, 9, 10, 11, 12, 13]⟩,
 xA 15 91 (.pick (.t 85) (.t 90) (.c (.bool false))) (rg 15),
 xA 16 2 (.mv (.t 91)) (rg 16)])
  .ret))))))
noncomputable def df_impl_IsEngine : DFun := ⟨1, 92, 2, true, [.tmp 2], dc_impl_IsEngine⟩
noncomputable def pf_impl_IsEngine : PFun := df_impl_IsEngine.er
noncomputable def f_impl_IsEngine : AFun := pf_impl_IsEngine.er
@[irreducible] noncomputable def s_impl_IsEngine : CallSem := funSem f_impl_IsEngine
@[irreducible] noncomputable def p_impl_IsEngine : PSem := pfunSem pf_impl_IsEngine
theorem sp_impl_IsEngine : SoundP s_impl_IsEngine p_impl_IsEngine := by unfold s_impl_IsEngine p_impl_IsEngine; exact pfun_sound (f := pf_impl_IsEngine) ⟨sp_impl_IsKeymap, sp_impl_IsHeld, sp_impl_IsMacro, trivial⟩
def h_impl_IsEngine : List HT := [.agg [(.frz, .int .i64), (.frz, .sl (.one (.sl (.cons (.int .i64) (.cons (.int .i64) (.cons (.int .i64) (.one (.int .i64)))))))), (.frz, .sl (.one (.sl (.cons (.int .i64) (.cons (.int .i64) (.one (.int .i64))))))), (.frz, .int .i64), (.frz, .sl (.cons (.int .i64) (.cons (.int .i64) (.cons (.int .i64) (.cons (.int .i64) (.one (.int .i64))))))), (.frz, .int .i64), (.frz, .bool)]]
def q_impl_IsEngine : QT := .one (.one .own (.bool))
@[irreducible] noncomputable def v_impl_IsEngine (x : Int × (List (List (Int × Int × Int × Int))) × (List (List (Int × Int × Int))) × Int × (List (Int × Int × Int × Int × Int)) × Int × Bool) : Bool := (shut fun x => fnV df_impl_IsEngine h_impl_IsEngine q_impl_IsEngine x).1 x
@[irreducible] noncomputable def ok_impl_IsEngine (x : Int × (List (List (Int × Int × Int × Int))) × (List (List (Int × Int × Int))) × Int × (List (Int × Int × Int × Int × Int)) × Int × Bool) : Prop := (shut fun x => fnOk df_impl_IsEngine h_impl_IsEngine q_impl_IsEngine x).1 x
theorem vu_impl_IsEngine (x : Int × (List (List (Int × Int × Int × Int))) × (List (List (Int × Int × Int))) × Int × (List (Int × Int × Int × Int × Int)) × Int × Bool) : v_impl_IsEngine x = fnV df_impl_IsEngine h_impl_IsEngine q_impl_IsEngine x := by unfold v_impl_IsEngine; exact congrFun (shut _).2 x
theorem ou_impl_IsEngine (x : Int × (List (List (Int × Int × Int × Int))) × (List (List (Int × Int × Int))) × Int × (List (Int × Int × Int × Int × Int)) × Int × Bool) : ok_impl_IsEngine x = fnOk df_impl_IsEngine h_impl_IsEngine q_impl_IsEngine x := by unfold ok_impl_IsEngine; exact congrFun (shut _).2 x
noncomputable def D_impl_IsEngine : DSem := DSemOf h_impl_IsEngine q_impl_IsEngine ok_impl_IsEngine v_impl_IsEngine
theorem ck_impl_IsEngine (x : Int × (List (List (Int × Int × Int × Int))) × (List (List (Int × Int × Int))) × Int × (List (Int × Int × Int × Int × Int)) × Int × Bool) : fnChk df_impl_IsEngine h_impl_IsEngine q_impl_IsEngine x = true := by kernel_rfl
theorem ob_impl_IsEngine : AllD df_impl_IsEngine.body.obs := ⟨sd_impl_IsKeymap, sd_impl_IsHeld, sd_impl_IsMacro, trivial⟩
theorem st_impl_IsEngine : fnSt df_impl_IsEngine h_impl_IsEngine q_impl_IsEngine = true := by kernel_rfl
theorem sd_impl_IsEngine : SoundD p_impl_IsEngine D_impl_IsEngine := by unfold p_impl_IsEngine; exact soundD_of (f := df_impl_IsEngine) (hs := h_impl_IsEngine) (q := q_impl_IsEngine) ob_impl_IsEngine st_impl_IsEngine ck_impl_IsEngine (fun x h => Eq.mp (ou_impl_IsEngine x) h) (fun x => (vu_impl_IsEngine x).symm)
noncomputable def dc_laws_FnExactIsEngine : DCode :=
  (.seq [1] (.region [oa 0 1 (.boxB 0 7 (.t 0)),
 oa 1 2 (.mv (.c (.bool false)))])
  (.seq [3, 1] (.region [oi 0 3 1048576])
  (.seq [3, 1] (.region [oa 0 7 (.loadB 0 (some 7) (.t 1)),
 om 1 8 3,
 oc 2 9 s_laws_szEngine p_laws_szEngine D_laws_szEngine [(.t 7), (.t 8)],
 om 3 3 9])
  (.seq [1] (.seq [11, 1] (.region [om 0 10 3,
 oa 1 11 (.bin .lss (.t 10) (.c (.int .i64 0)))])
  (.cond (.t 11) (.seq [2] (.region [oa 0 2 (.mv (.c (.bool true)))])
  .ret) .skip))
  (.seq [4, 1] (.region [oa 0 12 (.loadB 0 (some 7) (.t 1)),
 oc 1 13 s_laws_toEngine p_laws_toEngine D_laws_toEngine [(.t 12)],
 oc 2 14 s_spec_IsEngine p_spec_IsEngine D_spec_IsEngine [(.t 13)],
 om 3 4 14])
  (.seq [5, 4, 1] (.region [oa 0 15 (.loadB 0 (some 7) (.t 1)),
 oc 1 16 s_laws_toEngine p_laws_toEngine D_laws_toEngine [(.t 15)],
 oa 2 5 (.allocB 1 [(.int .i64 0), .nils, .nils, (.int .i64 0), .nils, (.int .i64 0), (.bool false)]),
 os 3 (.storeB 1 7 (.t 5) (.t 16))])
  (.seq [6, 5, 4, 1] (.region [oa 0 17 (.loadB 1 (some 7) (.t 5)),
 oc 1 18 s_impl_IsEngine p_impl_IsEngine D_impl_IsEngine [(.t 17)],
 om 2 6 18])
  (.seq [5, 1] (.seq [21, 5, 1] (.region [om 0 19 6,
 om 1 20 4,
 oa 2 21 (.eqB true (.t 19) (.t 20))])
  (.cond (.t 21) (.seq [2] (.region [oa 0 2 (.mv (.c (.bool false)))])
  .ret) .skip))
  (.seq [] (.seq [26] (.region [oa 0 22 (.loadB 1 (some 7) (.t 5)),
 oa 1 23 (.loadB 0 (some 7) (.t 1)),
 xC 2 24 s_laws_toEngine p_laws_toEngine D_laws_toEngine [(.t 23)] [1],
 xC 3 25 s_laws_eqEngine p_laws_eqEngine D_laws_eqEngine [(.t 22), (.t 24)] (rg 3),
 xA 4 26 (.un .not (.t 25)) (rg 4)])
  (.cond (.t 26) (.seq [2] (.region [oa 0 2 (.mv (.c (.bool false)))])
  .ret) .skip))
  (.seq [2] (.region [oa 0 2 (.mv (.c (.bool true)))])
  .ret))))))))))
noncomputable def df_laws_FnExactIsEngine : DFun := ⟨1, 27, 2, true, [.tmp 2], dc_laws_FnExactIsEngine⟩
noncomputable def pf_laws_FnExactIsEngine : PFun := df_laws_FnExactIsEngine.er
noncomputable def f_laws_FnExactIsEngine : AFun := pf_laws_FnExactIsEngine.er
@[irreducible] noncomputable def s_laws_FnExactIsEngine : CallSem := funSem f_laws_FnExactIsEngine
@[irreducible] noncomputable def p_laws_FnExactIsEngine : PSem := pfunSem pf_laws_FnExactIsEngine
theorem sp_laws_FnExactIsEngine : SoundP s_laws_FnExactIsEngine p_laws_FnExactIsEngine := by unfold s_laws_FnExactIsEngine p_laws_FnExactIsEngine; exact pfun_sound (f := pf_laws_FnExactIsEngine) ⟨sp_laws_szEngine, sp_laws_toEngine, sp_spec_IsEngine, sp_laws_toEngine, sp_impl_IsEngine, sp_laws_toEngine, sp_laws_eqEngine, trivial⟩
def h_laws_FnExactIsEngine : List HT := [.agg [(.frz, .int .i64), (.frz, .sl (.one (.sl (.cons (.int .i64) (.cons (.int .i64) (.cons (.int .i64) (.one (.int .i64)))))))), (.frz, .sl (.one (.sl (.cons (.int .i64) (.cons (.int .i64) (.one (.int .i64))))))), (.frz, .int .i64), (.frz, .sl (.cons (.int .i64) (.cons (.int .i64) (.cons (.int .i64) (.cons (.int .i64) (.one (.int .i64))))))), (.frz, .int .i64), (.frz, .bool)]]
def q_laws_FnExactIsEngine : QT := .one (.one .own (.bool))
@[irreducible] noncomputable def v_laws_FnExactIsEngine (x : Int × (List (List (Int × Int × Int × Int))) × (List (List (Int × Int × Int))) × Int × (List (Int × Int × Int × Int × Int)) × Int × Bool) : Bool := (shut fun x => fnV df_laws_FnExactIsEngine h_laws_FnExactIsEngine q_laws_FnExactIsEngine x).1 x
@[irreducible] noncomputable def ok_laws_FnExactIsEngine (x : Int × (List (List (Int × Int × Int × Int))) × (List (List (Int × Int × Int))) × Int × (List (Int × Int × Int × Int × Int)) × Int × Bool) : Prop := (shut fun x => fnOk df_laws_FnExactIsEngine h_laws_FnExactIsEngine q_laws_FnExactIsEngine x).1 x
theorem vu_laws_FnExactIsEngine (x : Int × (List (List (Int × Int × Int × Int))) × (List (List (Int × Int × Int))) × Int × (List (Int × Int × Int × Int × Int)) × Int × Bool) : v_laws_FnExactIsEngine x = fnV df_laws_FnExactIsEngine h_laws_FnExactIsEngine q_laws_FnExactIsEngine x := by unfold v_laws_FnExactIsEngine; exact congrFun (shut _).2 x
theorem ou_laws_FnExactIsEngine (x : Int × (List (List (Int × Int × Int × Int))) × (List (List (Int × Int × Int))) × Int × (List (Int × Int × Int × Int × Int)) × Int × Bool) : ok_laws_FnExactIsEngine x = fnOk df_laws_FnExactIsEngine h_laws_FnExactIsEngine q_laws_FnExactIsEngine x := by unfold ok_laws_FnExactIsEngine; exact congrFun (shut _).2 x
theorem ck_laws_FnExactIsEngine (x : Int × (List (List (Int × Int × Int × Int))) × (List (List (Int × Int × Int))) × Int × (List (Int × Int × Int × Int × Int)) × Int × Bool) : fnChk df_laws_FnExactIsEngine h_laws_FnExactIsEngine q_laws_FnExactIsEngine x = true := by kernel_rfl
theorem ob_laws_FnExactIsEngine : AllD df_laws_FnExactIsEngine.body.obs := ⟨sd_laws_szEngine, sd_laws_toEngine, sd_spec_IsEngine, sd_laws_toEngine, sd_impl_IsEngine, sd_laws_toEngine, sd_laws_eqEngine, trivial⟩
theorem st_laws_FnExactIsEngine : fnSt df_laws_FnExactIsEngine h_laws_FnExactIsEngine q_laws_FnExactIsEngine = true := by kernel_rfl
end
section
set_option maxRecDepth 100000
noncomputable def lc_spec_IsEngine_1 (x : Int × (List (List (Int × Int × Int × Int))) × (List (List (Int × Int × Int))) × Int × (List (Int × Int × Int × Int × Int)) × Int × Bool) (x0 : Int) : Bool := (bAnd (iLt x0 (lLen x.2.2.1)) (bNot (bNot (v_spec_IsMacro (lGet x.2.2.1 (iNat x0) [])))))
noncomputable def lf_spec_IsEngine_1 (x0 : Int) : Int := (iAdd Go.IntKind.i64 x0 1)
noncomputable def lc_spec_IsEngine_2 (x : Int × (List (List (Int × Int × Int × Int))) × (List (List (Int × Int × Int))) × Int × (List (Int × Int × Int × Int × Int)) × Int × Bool) (x0 : Int) : Bool := (bAnd (iLt x0 (lLen x.2.2.2.2.1)) (bNot (bOr (iGe (lGet x.2.2.2.2.1 (iNat x0) (0, 0, 0, 0, 0)).1 x.1) (bAnd (iNe (lGet x.2.2.2.2.1 (iNat x0) (0, 0, 0, 0, 0)).2.1 9) (iGe (lGet x.2.2.2.2.1 (iNat x0) (0, 0, 0, 0, 0)).2.2.2.2 (lLen x.2.1))))))
noncomputable def lp_spec_IsEngine_1 (x : Int × (List (List (Int × Int × Int × Int))) × (List (List (Int × Int × Int))) × Int × (List (Int × Int × Int × Int × Int)) × Int × Bool) (x0 : Int) : Prop := (((iLt x0 (lLen x.2.2.1)) = true → ((((0 : Int) ≤ x0) ∧ (x0 < (((List.length x.2.2.1) : Int)))) ∧ (((iNat x0) < (List.length x.2.2.1)) ∧ (ok_spec_IsMacro (lGet x.2.2.1 (iNat x0) []))))) ∧ ((iLt x0 (lLen x.2.2.1)) = false → True))
noncomputable def lp_spec_IsEngine_2 (x : Int × (List (List (Int × Int × Int × Int))) × (List (List (Int × Int × Int))) × Int × (List (Int × Int × Int × Int × Int)) × Int × Bool) (x0 : Int) : Prop := (((iLt x0 (lLen x.2.2.2.2.1)) = true → ((((0 : Int) ≤ x0) ∧ (x0 < (((List.length x.2.2.2.2.1) : Int)))) ∧ (((iNat x0) < (List.length x.2.2.2.2.1)) ∧ (((iGe (lGet x.2.2.2.2.1 (iNat x0) (0, 0, 0, 0, 0)).1 x.1) = true → True) ∧ ((iGe (lGet x.2.2.2.2.1 (iNat x0) (0, 0, 0, 0, 0)).1 x.1) = false → ((((0 : Int) ≤ x0) ∧ (x0 < (((List.length x.2.2.2.2.1) : Int)))) ∧ (((iNat x0) < (List.length x.2.2.2.2.1)) ∧ (((iNe (lGet x.2.2.2.2.1 (iNat x0) (0, 0, 0, 0, 0)).2.1 9) = true → ((((0 : Int) ≤ x0) ∧ (x0 < (((List.length x.2.2.2.2.1) : Int)))) ∧ ((iNat x0) < (List.length x.2.2.2.2.1)))) ∧ ((iNe (lGet x.2.2.2.2.1 (iNat x0) (0, 0, 0, 0, 0)).2.1 9) = false → True))))))))) ∧ ((iLt x0 (lLen x.2.2.2.2.1)) = false → True))
theorem ve_spec_IsEngine (x : Int × (List (List (Int × Int × Int × Int))) × (List (List (Int × Int × Int))) × Int × (List (Int × Int × Int × Int × Int)) × Int × Bool) : v_spec_IsEngine x = (bAnd (bNot (bOr (bNot (v_spec_IsKeymap (x.1, x.2.1))) (bOr (iGt (lLen x.2.2.1) 4) (bNot (v_spec_IsHeld x.2.2.2.2.1))))) (bAnd (bNot (iLt (loopV (lc_spec_IsEngine_1 x) lf_spec_IsEngine_1 0) (lLen x.2.2.1))) (bAnd (bNot (iLt (loopV (lc_spec_IsEngine_2 x) lf_spec_IsEngine_1 0) (lLen x.2.2.2.2.1))) (bAnd (v_spec_l1In (x.2.2.2.1, 0, (iSub Go.IntKind.i64 (iShl Go.IntKind.i64 1 (lLen x.2.1)) 1))) (bAnd (iEq (iRem x.2.2.2.1 2) 0) (v_spec_l1In (x.2.2.2.2.2.1, 0, 15))))))) := (vu_spec_IsEngine x).trans (by kernel_rfl)
theorem oe_spec_IsEngine (x : Int × (List (List (Int × Int × Int × Int))) × (List (List (Int × Int × Int))) × Int × (List (Int × Int × Int × Int × Int)) × Int × Bool) : ok_spec_IsEngine x = (((ok_spec_IsKeymap (x.1, x.2.1)) ∧ (((bNot (v_spec_IsKeymap (x.1, x.2.1))) = true → True) ∧ ((bNot (v_spec_IsKeymap (x.1, x.2.1))) = false → (((iGt (lLen x.2.2.1) 4) = true → True) ∧ ((iGt (lLen x.2.2.1) 4) = false → (ok_spec_IsHeld x.2.2.2.2.1)))))) ∧ (((bOr (bNot (v_spec_IsKeymap (x.1, x.2.1))) (bOr (iGt (lLen x.2.2.1) 4) (bNot (v_spec_IsHeld x.2.2.2.2.1)))) = true → True) ∧ ((bOr (bNot (v_spec_IsKeymap (x.1, x.2.1))) (bOr (iGt (lLen x.2.2.1) 4) (bNot (v_spec_IsHeld x.2.2.2.2.1)))) = false → ((LoopOk (lc_spec_IsEngine_1 x) lf_spec_IsEngine_1 (lp_spec_IsEngine_1 x) 0) ∧ (((iLt (loopV (lc_spec_IsEngine_1 x) lf_spec_IsEngine_1 0) (lLen x.2.2.1)) = true → True) ∧ ((iLt (loopV (lc_spec_IsEngine_1 x) lf_spec_IsEngine_1 0) (lLen x.2.2.1)) = false → ((LoopOk (lc_spec_IsEngine_2 x) lf_spec_IsEngine_1 (lp_spec_IsEngine_2 x) 0) ∧ (((iLt (loopV (lc_spec_IsEngine_2 x) lf_spec_IsEngine_1 0) (lLen x.2.2.2.2.1)) = true → True) ∧ ((iLt (loopV (lc_spec_IsEngine_2 x) lf_spec_IsEngine_1 0) (lLen x.2.2.2.2.1)) = false → (((0 : Int) ≤ (lLen x.2.1)) ∧ ((ok_spec_l1In (x.2.2.2.1, 0, (iSub Go.IntKind.i64 (iShl Go.IntKind.i64 1 (lLen x.2.1)) 1))) ∧ (((v_spec_l1In (x.2.2.2.1, 0, (iSub Go.IntKind.i64 (iShl Go.IntKind.i64 1 (lLen x.2.1)) 1))) = true → (((2 : Int) ≠ 0) ∧ (((iEq (iRem x.2.2.2.1 2) 0) = true → (ok_spec_l1In (x.2.2.2.2.2.1, 0, 15))) ∧ ((iEq (iRem x.2.2.2.1 2) 0) = false → True)))) ∧ ((v_spec_l1In (x.2.2.2.1, 0, (iSub Go.IntKind.i64 (iShl Go.IntKind.i64 1 (lLen x.2.1)) 1))) = false → True))))))))))))) := (ou_spec_IsEngine x).trans (by kernel_rfl)
noncomputable def lc_impl_IsEngine_1 (x : Int × (List (List (Int × Int × Int × Int))) × (List (List (Int × Int × Int))) × Int × (List (Int × Int × Int × Int × Int)) × Int × Bool) (x0 : Int) : Bool := (bAnd (iLt x0 (lLen x.2.2.1)) (bNot (bNot (v_impl_IsMacro (lGet x.2.2.1 (iNat x0) [])))))
noncomputable def lf_impl_IsEngine_1 (x0 : Int) : Int := (iAdd Go.IntKind.i64 x0 1)
noncomputable def lc_impl_IsEngine_2 (x : Int × (List (List (Int × Int × Int × Int))) × (List (List (Int × Int × Int))) × Int × (List (Int × Int × Int × Int × Int)) × Int × Bool) (x0 : Int) : Bool := (bAnd (iLt x0 (lLen x.2.2.2.2.1)) (bNot (bOr (iGe (lGet x.2.2.2.2.1 (iNat x0) (0, 0, 0, 0, 0)).1 x.1) (bAnd (iNe (lGet x.2.2.2.2.1 (iNat x0) (0, 0, 0, 0, 0)).2.1 9) (iGe (lGet x.2.2.2.2.1 (iNat x0) (0, 0, 0, 0, 0)).2.2.2.2 (lLen x.2.1))))))
noncomputable def lp_impl_IsEngine_1 (x : Int × (List (List (Int × Int × Int × Int))) × (List (List (Int × Int × Int))) × Int × (List (Int × Int × Int × Int × Int)) × Int × Bool) (x0 : Int) : Prop := (((iLt x0 (lLen x.2.2.1)) = true → ((((0 : Int) ≤ x0) ∧ (x0 < (((List.length x.2.2.1) : Int)))) ∧ (((iNat x0) < (List.length x.2.2.1)) ∧ (ok_impl_IsMacro (lGet x.2.2.1 (iNat x0) []))))) ∧ ((iLt x0 (lLen x.2.2.1)) = false → True))
noncomputable def lp_impl_IsEngine_2 (x : Int × (List (List (Int × Int × Int × Int))) × (List (List (Int × Int × Int))) × Int × (List (Int × Int × Int × Int × Int)) × Int × Bool) (x0 : Int) : Prop := (((iLt x0 (lLen x.2.2.2.2.1)) = true → ((((0 : Int) ≤ x0) ∧ (x0 < (((List.length x.2.2.2.2.1) : Int)))) ∧ ((iNat x0) < (List.length x.2.2.2.2.1)))) ∧ ((iLt x0 (lLen x.2.2.2.2.1)) = false → True))
theorem ve_impl_IsEngine (x : Int × (List (List (Int × Int × Int × Int))) × (List (List (Int × Int × Int))) × Int × (List (Int × Int × Int × Int × Int)) × Int × Bool) : v_impl_IsEngine x = (bAnd (bNot (bOr (bNot (v_impl_IsKeymap (x.1, x.2.1))) (bOr (iGt (lLen x.2.2.1) 4) (bOr (bNot (v_impl_IsHeld x.2.2.2.2.1)) (bOr (iLt x.2.2.2.2.2.1 0) (iGt x.2.2.2.2.2.1 15)))))) (bAnd (bNot (iLt (loopV (lc_impl_IsEngine_1 x) lf_impl_IsEngine_1 0) (lLen x.2.2.1))) (bAnd (bNot (iLt (loopV (lc_impl_IsEngine_2 x) lf_impl_IsEngine_1 0) (lLen x.2.2.2.2.1))) (bAnd (iGe x.2.2.2.1 0) (bAnd (iEq (iRem x.2.2.2.1 2) 0) (iLt x.2.2.2.1 (iShl Go.IntKind.i64 1 (lLen x.2.1)))))))) := (vu_impl_IsEngine x).trans (by kernel_rfl)
theorem oe_impl_IsEngine (x : Int × (List (List (Int × Int × Int × Int))) × (List (List (Int × Int × Int))) × Int × (List (Int × Int × Int × Int × Int)) × Int × Bool) : ok_impl_IsEngine x = (((ok_impl_IsKeymap (x.1, x.2.1)) ∧ (((bNot (v_impl_IsKeymap (x.1, x.2.1))) = true → True) ∧ ((bNot (v_impl_IsKeymap (x.1, x.2.1))) = false → (((iGt (lLen x.2.2.1) 4) = true → True) ∧ ((iGt (lLen x.2.2.1) 4) = false → (ok_impl_IsHeld x.2.2.2.2.1)))))) ∧ (((bOr (bNot (v_impl_IsKeymap (x.1, x.2.1))) (bOr (iGt (lLen x.2.2.1) 4) (bOr (bNot (v_impl_IsHeld x.2.2.2.2.1)) (bOr (iLt x.2.2.2.2.2.1 0) (iGt x.2.2.2.2.2.1 15))))) = true → True) ∧ ((bOr (bNot (v_impl_IsKeymap (x.1, x.2.1))) (bOr (iGt (lLen x.2.2.1) 4) (bOr (bNot (v_impl_IsHeld x.2.2.2.2.1)) (bOr (iLt x.2.2.2.2.2.1 0) (iGt x.2.2.2.2.2.1 15))))) = false → ((LoopOk (lc_impl_IsEngine_1 x) lf_impl_IsEngine_1 (lp_impl_IsEngine_1 x) 0) ∧ (((iLt (loopV (lc_impl_IsEngine_1 x) lf_impl_IsEngine_1 0) (lLen x.2.2.1)) = true → True) ∧ ((iLt (loopV (lc_impl_IsEngine_1 x) lf_impl_IsEngine_1 0) (lLen x.2.2.1)) = false → ((LoopOk (lc_impl_IsEngine_2 x) lf_impl_IsEngine_1 (lp_impl_IsEngine_2 x) 0) ∧ (((iLt (loopV (lc_impl_IsEngine_2 x) lf_impl_IsEngine_1 0) (lLen x.2.2.2.2.1)) = true → True) ∧ ((iLt (loopV (lc_impl_IsEngine_2 x) lf_impl_IsEngine_1 0) (lLen x.2.2.2.2.1)) = false → (((iGe x.2.2.2.1 0) = true → (((2 : Int) ≠ 0) ∧ (((iEq (iRem x.2.2.2.1 2) 0) = true → ((0 : Int) ≤ (lLen x.2.1))) ∧ ((iEq (iRem x.2.2.2.1 2) 0) = false → True)))) ∧ ((iGe x.2.2.2.1 0) = false → True))))))))))) := (ou_impl_IsEngine x).trans (by kernel_rfl)
theorem ve_laws_FnExactIsEngine (x : Int × (List (List (Int × Int × Int × Int))) × (List (List (Int × Int × Int))) × Int × (List (Int × Int × Int × Int × Int)) × Int × Bool) : v_laws_FnExactIsEngine x = (bOr (iLt (v_laws_szEngine (x, 1048576)) 0) (bAnd (bNot (bNot (bIff (v_impl_IsEngine (v_laws_toEngine x)) (v_spec_IsEngine (v_laws_toEngine x))))) (bNot (bNot (v_laws_eqEngine ((v_laws_toEngine x), (v_laws_toEngine x))))))) := (vu_laws_FnExactIsEngine x).trans (by kernel_rfl)
theorem oe_laws_FnExactIsEngine (x : Int × (List (List (Int × Int × Int × Int))) × (List (List (Int × Int × Int))) × Int × (List (Int × Int × Int × Int × Int)) × Int × Bool) : ok_laws_FnExactIsEngine x = ((ok_laws_szEngine (x, 1048576)) ∧ (((iLt (v_laws_szEngine (x, 1048576)) 0) = true → True) ∧ ((iLt (v_laws_szEngine (x, 1048576)) 0) = false → ((ok_laws_toEngine x) ∧ ((ok_spec_IsEngine (v_laws_toEngine x)) ∧ ((ok_laws_toEngine x) ∧ ((ok_impl_IsEngine (v_laws_toEngine x)) ∧ (((bNot (bIff (v_impl_IsEngine (v_laws_toEngine x)) (v_spec_IsEngine (v_laws_toEngine x)))) = true → True) ∧ ((bNot (bIff (v_impl_IsEngine (v_laws_toEngine x)) (v_spec_IsEngine (v_laws_toEngine x)))) = false → ((ok_laws_toEngine x) ∧ (ok_laws_eqEngine ((v_laws_toEngine x), (v_laws_toEngine x))))))))))))) := (ou_laws_FnExactIsEngine x).trans (by kernel_rfl)
end
theorem loop_two {X Y : Type} {c : X → Bool} {f : X → X} {p : X → Prop} {d : Y → Bool} {g : Y → Y} {q : Y → Prop} (R : X → Y → Prop) (m : X → Nat)
    (h : ∀ x y, R x y → p x ∧ q y ∧ c x = d y ∧ (c x = true → R (f x) (g y) ∧ m (f x) < m x)) {x0 : X} {y0 : Y} (h0 : R x0 y0) :
    LoopOk c f p x0 ∧ LoopOk d g q y0 ∧ R (loopV c f x0) (loopV d g y0) ∧ c (loopV c f x0) = false := by
  have go : ∀ (n : Nat) (x : X) (y : Y), m x < n → R x y → ∃ u v, LoopTo c f p x u ∧ LoopTo d g q y v ∧ R u v ∧ c u = false := by
    intro n
    induction n with
    | zero => intro x y hm; exact absurd hm (Nat.not_lt_zero _)
    | succ n ih =>
      intro x y hm hR
      obtain ⟨h1, h2, h3, h4⟩ := h x y hR
      cases hc : c x with
      | false => exact ⟨x, y, .stop h1 hc, .stop h2 (by rw [← h3]; exact hc), hR, hc⟩
      | true =>
        obtain ⟨h5, h6⟩ := h4 hc
        obtain ⟨u, v, a1, a2, a3, a4⟩ := ih _ _ (by omega) h5
        exact ⟨u, v, .go h1 hc a1, .go h2 (by rw [← h3]; exact hc) a2, a3, a4⟩
  obtain ⟨u, v, a1, a2, a3, a4⟩ := go _ x0 y0 (Nat.lt_succ_self _) h0
  exact ⟨⟨_, a1⟩, ⟨_, a2⟩, by rw [a1.val, a2.val]; exact a3, by rw [a1.val]; exact a4⟩
theorem shl_i64 {a k : Nat} (hk : k ≤ 64) (h : a * 2 ^ k < 9223372036854775808) : iShl .i64 (a : Int) (k : Int) = ((a * 2 ^ k : Nat) : Int) := by
  rw [iShl_u]
  show IntKind.i64.wrap ((a : Int) * 2 ^ min (k : Int).toNat 64) = _
  rw [Int.toNat_natCast, Nat.min_eq_left hk]
  have : ((a : Int) * 2 ^ k) = ((a * 2 ^ k : Nat) : Int) := by norm_cast
  rw [this]
  exact wrap_i64 (by unfold In64; omega)
def Bytes (x : List Int) : Prop := ∀ a ∈ x, 0 ≤ a ∧ a < 256
theorem Bytes.get {x : List Int} (h : Bytes x) (i : Nat) : ∃ n : Nat, n < 256 ∧ x.getD i 0 = (n : Int) := by
  by_cases hi : i < x.length
  · obtain ⟨h0, h1⟩ := h _ (getD_mem x i 0 hi)
    exact ⟨(x.getD i 0).toNat, by omega, by omega⟩
  · exact ⟨0, by omega, by rw [List.getD_eq_getElem?_getD, List.getElem?_eq_none (by omega)]; rfl⟩
theorem Bytes.of {x : List Int} (h : CT.wf (.sl (.one (.int .u8))) x) : Bytes x := by
  intro a ha
  have := h.2 a ha
  simp only [RT.wf, CT.wf] at this
  have h : IntKind.u8.min ≤ a ∧ a ≤ IntKind.u8.max := by simpa [Lit.wf] using this
  have e1 : IntKind.u8.min = 0 := by decide
  have e2 : IntKind.u8.max = 255 := by decide
  rw [e1, e2] at h
  omega
abbrev EngX := Int × (List (List (Int × Int × Int × Int))) × (List (List (Int × Int × Int))) × Int × (List (Int × Int × Int × Int × Int)) × Int × Bool
theorem scan_two {c c' : Int → Bool} {f : Int → Int} {p q : Int → Prop} (n : Nat) (hn : n ≤ 1048576) (hc : ∀ i : Nat, i < n → c i = c' i) (hlt : ∀ i : Nat, c i = true → i < n) (hlt' : ∀ i : Nat, c' i = true → i < n) (hf : ∀ i, f i = iAdd .i64 i 1) (hp : ∀ i : Nat, i ≤ n → p i ∧ q i) :
    LoopOk c f p 0 ∧ LoopOk c' f q 0 ∧ loopV c f 0 = loopV c' f 0 ∧ 0 ≤ loopV c f 0 ∧ loopV c f 0 ≤ n := by
  obtain ⟨b1, b2, ⟨k, h1, h2, h3⟩, b4⟩ := loop_two (c := c) (f := f) (p := p) (d := c') (g := f) (q := q) (x0 := 0) (y0 := 0) (fun x y => ∃ k : Nat, k ≤ n ∧ x = k ∧ y = k) (fun x => n - x.toNat) (by
    rintro x y ⟨k, hk, rfl, rfl⟩
    refine ⟨(hp k hk).1, (hp k hk).2, ?_, fun h => ?_⟩
    · by_cases hkn : k < n
      · exact hc k hkn
      · have e1 : c (k : Int) = false := by cases h : c (k : Int) with
          | false => rfl
          | true => exact absurd (hlt k h) hkn
        have e2 : c' (k : Int) = false := by cases h : c' (k : Int) with
          | false => rfl
          | true => exact absurd (hlt' k h) hkn
        rw [e1, e2]
    · have hkn := hlt k h
      have e : f (k : Int) = ((k + 1 : Nat) : Int) := by rw [hf, iAdd_i64 (by unfold In64; omega)]; omega
      exact ⟨⟨k + 1, hkn, e, e⟩, by rw [e]; omega⟩) ⟨0, by omega, rfl, rfl⟩
  exact ⟨b1, b2, by rw [h2, h3], by omega, by omega⟩
theorem isEngine_two (x : EngX) (hs : sm_Engine x) : ok_spec_IsEngine x ∧ ok_impl_IsEngine x ∧ v_impl_IsEngine x = v_spec_IsEngine x := by
  obtain ⟨keys, layers, macros, fixed, held, once, caps⟩ := x
  have hk : sm_Keymap (keys, layers) := hs.1
  have hm : sm_StepSS macros := hs.2.1
  have hh : sm_HeldS held := hs.2.2.1
  obtain ⟨a1, a2⟩ := ok_IsKeymap_t (keys, layers) hk
  have l1 := scan_two (c := lc_spec_IsEngine_1 (keys, layers, macros, fixed, held, once, caps)) (c' := lc_impl_IsEngine_1 (keys, layers, macros, fixed, held, once, caps)) (f := lf_spec_IsEngine_1) (p := lp_spec_IsEngine_1 (keys, layers, macros, fixed, held, once, caps)) (q := lp_impl_IsEngine_1 (keys, layers, macros, fixed, held, once, caps)) macros.length hm.1
    (fun i hi => by
      simp only [lc_spec_IsEngine_1, lc_impl_IsEngine_1]
      rw [lGet_eq, iNat_eq, Int.toNat_natCast, isMacro_eq _ (hm.2 _ (getD_mem macros i [] hi)).1])
    (fun i h => by simp only [lc_spec_IsEngine_1, bAnd_eq, Bool.and_eq_true, iLt_eq, lLen_eq, decide_eq_true_eq] at h; omega)
    (fun i h => by simp only [lc_impl_IsEngine_1, bAnd_eq, Bool.and_eq_true, iLt_eq, lLen_eq, decide_eq_true_eq] at h; omega) (fun i => rfl)
    (fun i hi => by
      have k : (i : Int) < macros.length → ok_spec_IsMacro (lGet macros (iNat (i : Int)) []) ∧ ok_impl_IsMacro (lGet macros (iNat (i : Int)) []) := fun h => by
        rw [lGet_eq, iNat_eq, Int.toNat_natCast]
        have := (hm.2 _ (getD_mem macros i [] (by omega))).1
        exact ⟨ok_specIsMacro _ this, ok_implIsMacro _ this⟩
      simp only [lp_spec_IsEngine_1, lp_impl_IsEngine_1, iLt_eq, lLen_eq, decide_eq_true_eq]
      refine ⟨⟨fun h => ⟨⟨by omega, h⟩, by rw [iNat_eq]; omega, (k h).1⟩, fun _ => trivial⟩, ⟨fun h => ⟨⟨by omega, h⟩, by rw [iNat_eq]; omega, (k h).2⟩, fun _ => trivial⟩⟩)
  have l2 := scan_two (c := lc_spec_IsEngine_2 (keys, layers, macros, fixed, held, once, caps)) (c' := lc_impl_IsEngine_2 (keys, layers, macros, fixed, held, once, caps)) (f := lf_spec_IsEngine_1) (p := lp_spec_IsEngine_2 (keys, layers, macros, fixed, held, once, caps)) (q := lp_impl_IsEngine_2 (keys, layers, macros, fixed, held, once, caps)) held.length hh.1
    (fun i hi => rfl)
    (fun i h => by simp only [lc_spec_IsEngine_2, bAnd_eq, Bool.and_eq_true, iLt_eq, lLen_eq, decide_eq_true_eq] at h; omega)
    (fun i h => by simp only [lc_impl_IsEngine_2, bAnd_eq, Bool.and_eq_true, iLt_eq, lLen_eq, decide_eq_true_eq] at h; omega) (fun i => rfl)
    (fun i hi => by
      simp only [lp_spec_IsEngine_2, lp_impl_IsEngine_2, iLt_eq, lLen_eq, decide_eq_true_eq]
      have k : (i : Int) < held.length → iNat (i : Int) < held.length := fun h => by rw [iNat_eq]; omega
      refine ⟨⟨fun h => ⟨⟨by omega, h⟩, k h, fun _ => trivial, fun _ => ⟨⟨by omega, h⟩, k h, fun _ => ⟨⟨by omega, h⟩, k h⟩, fun _ => trivial⟩⟩, fun _ => trivial⟩, ⟨fun h => ⟨⟨by omega, h⟩, k h⟩, fun _ => trivial⟩⟩)
  have ef : lf_impl_IsEngine_1 = lf_spec_IsEngine_1 := rfl
  rw [oe_spec_IsEngine, oe_impl_IsEngine, ve_spec_IsEngine, ve_impl_IsEngine, ef]
  obtain ⟨p1, p2, p3, _⟩ := l1
  obtain ⟨q1, q2, q3, _⟩ := l2
  simp only [← p3, ← q3, isKeymap_eq, isHeld_eq]
  have hl : (0 : Int) ≤ lLen layers := by rw [lLen_eq]; omega
  refine ⟨?_, ?_, ?_⟩
  · simp only [a1, ok_spec_IsHeld_t held hh.1, ok_l1In, p1, q1, hl]
    simp
  · simp only [a2, ok_impl_IsHeld_t held hh.1, p2, q2, hl]
    simp
  · cases hv : v_impl_IsKeymap (keys, layers) with
    | false => simp [bOr_eq, bNot_eq, bAnd_eq]
    | true =>
      have hm := isKeymap_ok hk hv
      have e1 : iShl .i64 1 (lLen layers) = ((2 ^ layers.length : Nat) : Int) := by
        have h2 : 2 ^ layers.length ≤ 2 ^ 4 := Nat.pow_le_pow_right (by omega) hm.l2
        rw [lLen_eq]
        have := shl_i64 (a := 1) (k := layers.length) (by have := hm.l2; omega) (by omega)
        rw [Nat.one_mul] at this
        exact this
      have h2 : 2 ^ layers.length ≤ 2 ^ 4 := Nat.pow_le_pow_right (by omega) hm.l2
      generalize (2 ^ layers.length : Nat) = M at e1 h2
      have e2 : iSub .i64 (M : Int) 1 = (M : Int) - 1 := iSub_i64 (by unfold In64; omega)
      rw [e1, e2, l1In_eq, l1In_eq]
      generalize iLt (loopV _ _ _) (lLen macros) = A
      generalize iLt (loopV _ _ _) (lLen held) = B
      rw [Bool.eq_iff_iff]
      simp only [bOr_eq, bNot_eq, bAnd_eq, iGt_eq, iLt_eq, iGe_eq, iEq_eq, Bool.and_eq_true, Bool.or_eq_false_iff, Bool.not_eq_true', decide_eq_true_eq, decide_eq_false_iff_not, Bool.not_true]
      constructor
      · rintro ⟨⟨_, h1, h3, h4, h5⟩, h6, h7, h8, h9, h10⟩
        exact ⟨⟨trivial, h1, h3⟩, h6, h7, ⟨h8, by omega⟩, h9, by omega, by omega⟩
      · rintro ⟨⟨_, h1, h3⟩, h6, h7, ⟨h8, h9⟩, h10, h11, h12⟩
        exact ⟨⟨trivial, h1, h3, by omega, by omega⟩, h6, h7, h8, h10, by omega⟩
theorem wl_Engine_of {x : EngX} (hw : TuX.wf h_laws_FnExactIsEngine x) : wl_Engine x := by
  obtain ⟨keys, layers, macros, fixed, held, once, caps⟩ := x
  obtain ⟨_, h1, h2, _, h3, _⟩ := hw
  exact ⟨wl_Keymap_of h1, ⟨h2.1, fun l hl => ⟨(h2.2 l hl).1, fun a _ => by simp [wl_Step]⟩⟩, ⟨h3.1, fun a _ => by simp [wl_Held, wl_Action]⟩, trivial⟩
theorem plain_FnExactIsEngine (x : EngX) (hw : TuX.wf h_laws_FnExactIsEngine x) : ok_laws_FnExactIsEngine x ∧ v_laws_FnExactIsEngine x = true := by
  rw [oe_laws_FnExactIsEngine, ve_laws_FnExactIsEngine]
  obtain ⟨k1, k2⟩ := sz_Engine x (wl_Engine_of hw) 1048576 (by omega) (by omega)
  rcases k2 with k2 | ⟨k2, _, k3⟩
  · have e : iLt (v_laws_szEngine (x, 1048576)) 0 = true := by rw [iLt_eq]; simpa using k2
    simp only [e]; simp [bOr_eq, k1]
  · have e : iLt (v_laws_szEngine (x, 1048576)) 0 = false := by rw [iLt_eq]; simpa using k2
    obtain ⟨t1, t2⟩ := to_Engine x k3
    obtain ⟨q1, q2⟩ := eq_Engine x x k3
    have q2 := q2.2 rfl
    obtain ⟨r1, r2, r3⟩ := isEngine_two x k3
    simp only [e, t2, r3, q2]
    simp [k1, t1, q1, r1, r2, bOr_eq, bAnd_eq, bNot_eq, bIff_eq]
end Go.Ag
