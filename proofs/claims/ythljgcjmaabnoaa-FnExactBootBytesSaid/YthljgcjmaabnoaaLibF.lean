/-
  Part 6 of what the law FnExactBootBytes needs: an abstract semantics proved sound, the program's functions in its form, plain Lean about them. No conditions.
-/
import Derived.KernelRfl
import Derived.Test.YthljgcjmaabnoaaLibE
namespace Go.Ag
set_option linter.unusedSimpArgs false
set_option linter.unusedVariables false
section
set_option maxRecDepth 8000
noncomputable def dc_spec_IsReport : DCode :=
  (.seq [1] (.region [oa 0 1 (.boxB 0 2 (.t 0)),
 oa 1 2 (.mv (.c (.bool false)))])
  (.seq [1] (.seq [3, 1] (.region [oi 0 3 0])
  (.block 0 (.loop [1, 3] 1 (.seq [3, 1] (.seq [8, 3, 1] (.region [om 0 4 3,
 oa 1 5 (.fieldA 1 (.t 1)),
 oa 2 6 (.loadB 0 none (.t 5)),
 oa 3 7 (.len (.t 6)),
 oa 4 8 (.bin .lss (.t 4) (.t 7))])
  (.cond (.t 8) .skip (.exit 0)))
  (.seq [3, 1] (.block 1 (.seq [35, 3, 1] (.region [oa 0 11 (.fieldA 1 (.t 1)),
 xA 1 12 (.loadB 0 none (.t 11)) (rg 1),
 om 2 13 3,
 xA 3 14 (.indexA 1 (.t 12) (.t 13)) (rg 3),
 xA 4 15 (.loadH none (.t 14)) (rg 4),
 xC 5 16 s_spec_l1In p_spec_l1In D_spec_l1In [(.t 15), (.c (.int .i64 1)), (.c (.int .i64 56))] (rg 5),
 xA 6 17 (.un .not (.t 16)) (rg 6),
 xA 7 18 (.mv (.t 17)) (rg 7),
 ⟨8, some 19, .a false (.mv (.t 3)) none, (some (18, false)), [0, 1, 2, 3, 4, 5, 6, 7]⟩,
 ⟨9, some 20, .a false (.bin .gtr (.t 19) (.c (.int .i64 0))) none, (some (18, false)), [0, 1, 2, 3, 4, 5, 6, 7, 8]⟩,
 ⟨10, some 21, .a false (.mv (.t 20)) none, (some (18, false)), [0, 1, 2, 3, 4, 5, 6, 7, 8, 9]⟩,
 ⟨11, some 22, .a false (.fieldA 1 (.t 1)) none, (some (21, true)), [0, 1, 2, 3, 4, 5, 6, 7, 8, 9, 10]⟩,
 ⟨12, some 23, .a false (.loadB 0 none (.t 22)) none, (some (21, true)), [0, 1, 2, 3, 4, 5, 6, 7, 8, 9, 10, 11]⟩,
 ⟨13, some 24, .a false (.mv (.t 3)) none, (some (21, true)), [0, 1, 2, 3, 4, 5, 6, 7, 8, 9, 10]⟩,
 ⟨14, some 25, .a false (.bin .sub (.t 24) (.c (.int .i64 1))) none, (some (21, true)), [0, 1, 2, 3, 4, 5, 6, 7, 8, 9, 10, 13]⟩,
 ⟨15, some 26, .a false (.indexA 1 (.t 23) (.t 25)) none, (some (21, true)), [0, 1, 2, 3, 4, 5, 6, 7, 8, 9, 10, 11, 12, 13, 14]⟩,
 ⟨16, some 27, .a false (.loadH none (.t 26)) none, (some (21, true)), [0, 1, 2, 3, 4, 5, 6, 7, 8, 9, 10, 11, 12, 13, 14, 15]⟩,
 ⟨17, some 28, .a false (.fieldA 1 (.t 1)) none, (some (21, true)), [0, 1, 2, 3, 4, 5, 6, 7, 8, 9, 10]⟩,
 ⟨18, some 29, .a false (.loadB 0 none (.t 28)) none, (some (21, true)), [0, 1, 2, 3, 4, 5, 6, 7, 8, 9, 10, 17]⟩,
 ⟨19, some 30, .a false (.mv (.t 3)) none, (some (21, true)), [0, 1, 2, 3, 4, 5, 6, 7, 8, 9, 10]⟩,
 ⟨20, some 31, .a false (.indexA 1 (.t 29) (.t 30)) none, (some (21, true)), [0, 1, 2, 3, 4, 5, 6, 7, 8, 9, 10, 17, 18, 19]⟩,
 ⟨21, some 32, .a false (.loadH none (.t 31)) none, (some (21, true)), [0, 1, 2, 3, 4, 5, 6, 7, 8, 9, 10, 17, 18, 19, 20]⟩,
 ⟨22, some 33, .a false (.bin .geq (.t 27) (.t 32)) none, (some (21, true)), [0, 1, 2, 3, 4, 5, 6, 7, 8, 9, 10, 11, 12, 13, 14, 15, 16, 17, 18, 19, 20, 21]⟩,
 ⟨23, some 34, .a false (.pick (.t 21) (.t 33) (.c (.bool false))) none, (some (18, false)), [0, 1, 2, 3, 4, 5, 6, 7, 8, 9, 10, 11, 12, 13, 14, 15, 16, 17, 18, 19, 20, 21, 22]⟩,
 xA 24 35 (.pick (.t 18) (.c (.bool true)) (.t 34)) (rg 24)])
  (.cond (.t 35) (.seq [2] (.region [oa 0 2 (.mv (.c (.bool false)))])
  .ret) .skip)))
  (.region [om 0 9 3,
 oa 1 10 (.bin .add (.t 9) (.c (.int .i64 1))),
 om 2 3 10]))))))
  (.seq [2] (.region [oa 0 36 (.fieldA 0 (.t 1)),
 oa 1 37 (.loadB 0 none (.t 36)),
 oc 2 38 s_spec_l1In p_spec_l1In D_spec_l1In [(.t 37), (.c (.int .i64 0)), (.c (.int .i64 15))],
 om 3 2 38])
  .ret)))
noncomputable def df_spec_IsReport : DFun := ⟨1, 39, 1, true, [.tmp 2], dc_spec_IsReport⟩
noncomputable def pf_spec_IsReport : PFun := df_spec_IsReport.er
noncomputable def f_spec_IsReport : AFun := pf_spec_IsReport.er
@[irreducible] noncomputable def s_spec_IsReport : CallSem := funSem f_spec_IsReport
@[irreducible] noncomputable def p_spec_IsReport : PSem := pfunSem pf_spec_IsReport
theorem sp_spec_IsReport : SoundP s_spec_IsReport p_spec_IsReport := by unfold s_spec_IsReport p_spec_IsReport; exact pfun_sound (f := pf_spec_IsReport) ⟨sp_spec_l1In, sp_spec_l1In, trivial⟩
def h_spec_IsReport : List HT := [.agg [(.frz, .int .i64), (.frz, .sl (.one (.int .i64)))]]
def q_spec_IsReport : QT := .one (.one .own (.bool))
@[irreducible] noncomputable def v_spec_IsReport (x : Int × List (Int)) : Bool := fnV df_spec_IsReport h_spec_IsReport q_spec_IsReport x
@[irreducible] noncomputable def ok_spec_IsReport (x : Int × List (Int)) : Prop := fnOk df_spec_IsReport h_spec_IsReport q_spec_IsReport x
noncomputable def D_spec_IsReport : DSem := DSemOf h_spec_IsReport q_spec_IsReport ok_spec_IsReport v_spec_IsReport
theorem ck_spec_IsReport (x : Int × List (Int)) : fnChk df_spec_IsReport h_spec_IsReport q_spec_IsReport x = true := by kernel_rfl
theorem ob_spec_IsReport : AllD df_spec_IsReport.body.obs := ⟨sd_spec_l1In, sd_spec_l1In, trivial⟩
theorem st_spec_IsReport : fnSt df_spec_IsReport h_spec_IsReport q_spec_IsReport = true := by kernel_rfl
theorem sd_spec_IsReport : SoundD p_spec_IsReport D_spec_IsReport := by unfold p_spec_IsReport; exact soundD_of (f := df_spec_IsReport) (hs := h_spec_IsReport) (q := q_spec_IsReport) ob_spec_IsReport st_spec_IsReport ck_spec_IsReport (fun x h => by unfold ok_spec_IsReport at h; exact h) (fun x => by unfold v_spec_IsReport; rfl)
noncomputable def dc_impl_IsReport : DCode :=
  (.seq [1] (.region [oa 0 1 (.boxB 0 2 (.t 0)),
 oa 1 2 (.mv (.c (.bool false)))])
  (.seq [1] (.seq [12, 1] (.region [oa 0 5 (.fieldA 0 (.t 1)),
 oa 1 6 (.loadB 0 none (.t 5)),
 oa 2 7 (.bin .lss (.t 6) (.c (.int .i64 0))),
 om 3 8 7,
 og 4 9 (.fieldA 0 (.t 1)) 8 false,
 og 5 10 (.loadB 0 none (.t 9)) 8 false,
 og 6 11 (.bin .gtr (.t 10) (.c (.int .i64 15))) 8 false,
 oa 7 12 (.pick (.t 8) (.c (.bool true)) (.t 11))])
  (.cond (.t 12) (.seq [2] (.region [oa 0 2 (.mv (.c (.bool false)))])
  .ret) .skip))
  (.seq [] (.seq [16, 15, 14, 1] (.region [oa 0 13 (.fieldA 1 (.t 1)),
 oa 1 14 (.loadB 0 none (.t 13)),
 oa 2 15 (.len (.t 14)),
 oi 3 16 0])
  (.block 0 (.loop [1, 14, 15, 16] 1 (.seq [17, 16, 15, 14, 1] (.region [oa 0 17 (.bin .lss (.t 16) (.t 15))])
  (.seq [16, 15, 14, 1] (.cond (.t 17) .skip (.exit 0))
  (.seq [16, 15, 14, 1] (.block 1 (.seq [16, 15, 14, 4, 3, 1] (.region [om 0 18 16,
 oa 1 19 (.indexA 1 (.t 14) (.t 16)),
 oa 2 20 (.loadH none (.t 19)),
 om 3 3 18,
 om 4 4 20])
  (.seq [37, 16, 15, 14, 1] (.region [om 0 21 4,
 oc 1 22 s_impl_isCode p_impl_isCode D_impl_isCode [(.t 21)],
 oa 2 23 (.un .not (.t 22)),
 om 3 24 23,
 og 4 25 (.mv (.t 3)) 24 false,
 og 5 26 (.bin .gtr (.t 25) (.c (.int .i64 0))) 24 false,
 og 6 27 (.mv (.t 26)) 24 false,
 og 7 28 (.fieldA 1 (.t 1)) 27 true,
 og 8 29 (.loadB 0 none (.t 28)) 27 true,
 og 9 30 (.mv (.t 3)) 27 true,
 og 10 31 (.bin .sub (.t 30) (.c (.int .i64 1))) 27 true,
 og 11 32 (.indexA 1 (.t 29) (.t 31)) 27 true,
 og 12 33 (.loadH none (.t 32)) 27 true,
 og 13 34 (.mv (.t 4)) 27 true,
 og 14 35 (.bin .geq (.t 33) (.t 34)) 27 true,
 og 15 36 (.pick (.t 27) (.t 35) (.c (.bool false))) 24 false,
 oa 16 37 (.pick (.t 24) (.c (.bool true)) (.t 36))])
  (.cond (.t 37) (.seq [2] (.region [oa 0 2 (.mv (.c (.bool false)))])
  .ret) .skip))))
  (.region [oa 0 38 (.bin .add (.t 16) (.c (.int .i64 1))),
 om 1 16 38])))))))
  (.seq [2] (.region [oa 0 2 (.mv (.c (.bool true)))])
  .ret))))
noncomputable def df_impl_IsReport : DFun := ⟨1, 39, 1, true, [.tmp 2], dc_impl_IsReport⟩
noncomputable def pf_impl_IsReport : PFun := df_impl_IsReport.er
noncomputable def f_impl_IsReport : AFun := pf_impl_IsReport.er
@[irreducible] noncomputable def s_impl_IsReport : CallSem := funSem f_impl_IsReport
@[irreducible] noncomputable def p_impl_IsReport : PSem := pfunSem pf_impl_IsReport
theorem sp_impl_IsReport : SoundP s_impl_IsReport p_impl_IsReport := by unfold s_impl_IsReport p_impl_IsReport; exact pfun_sound (f := pf_impl_IsReport) ⟨sp_impl_isCode, trivial⟩
def h_impl_IsReport : List HT := [.agg [(.frz, .int .i64), (.frz, .sl (.one (.int .i64)))]]
def q_impl_IsReport : QT := .one (.one .own (.bool))
@[irreducible] noncomputable def v_impl_IsReport (x : Int × List (Int)) : Bool := fnV df_impl_IsReport h_impl_IsReport q_impl_IsReport x
@[irreducible] noncomputable def ok_impl_IsReport (x : Int × List (Int)) : Prop := fnOk df_impl_IsReport h_impl_IsReport q_impl_IsReport x
noncomputable def D_impl_IsReport : DSem := DSemOf h_impl_IsReport q_impl_IsReport ok_impl_IsReport v_impl_IsReport
theorem ck_impl_IsReport (x : Int × List (Int)) : fnChk df_impl_IsReport h_impl_IsReport q_impl_IsReport x = true := by kernel_rfl
theorem ob_impl_IsReport : AllD df_impl_IsReport.body.obs := ⟨sd_impl_isCode, trivial⟩
theorem st_impl_IsReport : fnSt df_impl_IsReport h_impl_IsReport q_impl_IsReport = true := by kernel_rfl
theorem sd_impl_IsReport : SoundD p_impl_IsReport D_impl_IsReport := by unfold p_impl_IsReport; exact soundD_of (f := df_impl_IsReport) (hs := h_impl_IsReport) (q := q_impl_IsReport) ob_impl_IsReport st_impl_IsReport ck_impl_IsReport (fun x h => by unfold ok_impl_IsReport at h; exact h) (fun x => by unfold v_impl_IsReport; rfl)
noncomputable def dc_spec_BootBytes : DCode :=
  (.seq [1] (.region [oa 0 1 (.boxB 0 2 (.t 0)),
 oa 1 2 (.mv (.c .nils))])
  (.seq [1] (.seq [7, 1] (.region [oa 0 5 (.loadB 0 (some 2) (.t 1)),
 oc 1 6 s_spec_IsReport p_spec_IsReport D_spec_IsReport [(.t 5)],
 oa 2 7 (.un .not (.t 6))])
  (.cond (.t 7) (.seq [2] (.region [⟨0, some 8, .a false (.litSlice 1 0 [] []) (some (.one (.int .u8))), none, []⟩,
 om 1 2 8])
  .ret) .skip))
  (.seq [3, 1] (.region [oa 0 9 (.fieldA 0 (.t 1)),
 oa 1 10 (.loadB 0 none (.t 9)),
 oa 2 11 (.conv .u8 (.t 10)),
 ⟨3, some 12, .a false (.litSlice 1 8 [(.int .u8 0), (.int .u8 0), (.int .u8 0), (.int .u8 0), (.int .u8 0), (.int .u8 0), (.int .u8 0), (.int .u8 0)] [(0, 1, (.t 11)), (1, 1, (.c (.int .u8 0))), (2, 1, (.c (.int .u8 0))), (3, 1, (.c (.int .u8 0))), (4, 1, (.c (.int .u8 0))), (5, 1, (.c (.int .u8 0))), (6, 1, (.c (.int .u8 0))), (7, 1, (.c (.int .u8 0)))]) (some (.one (.int .u8))), none, []⟩,
 om 4 3 12])
  (.seq [3] (.seq [4, 3, 1] (.region [oi 0 4 0])
  (.block 0 (.loop [1, 3, 4] 1 (.seq [4, 3, 1] (.seq [14, 4, 3, 1] (.region [om 0 13 4,
 oa 1 14 (.bin .lss (.t 13) (.c (.int .i64 6)))])
  (.cond (.t 14) .skip (.exit 0)))
  (.seq [4, 3, 1] (.block 1 (.seq [20, 4, 3, 1] (.region [oa 0 17 (.fieldA 1 (.t 1)),
 oa 1 18 (.loadB 0 none (.t 17)),
 oa 2 19 (.len (.t 18)),
 oa 3 20 (.bin .gtr (.t 19) (.c (.int .i64 6)))])
  (.cond (.t 20) (.region [on 0 21 3,
 om 1 22 4,
 oa 2 23 (.bin .add (.c (.int .i64 2)) (.t 22)),
 oa 3 24 (.indexA 1 (.t 21) (.t 23)),
 os 4 (.storeH 1 (.t 24) (.c (.int .u8 1)))]) (.seq [29, 4, 3, 1] (.region [om 0 25 4,
 oa 1 26 (.fieldA 1 (.t 1)),
 oa 2 27 (.loadB 0 none (.t 26)),
 oa 3 28 (.len (.t 27)),
 oa 4 29 (.bin .lss (.t 25) (.t 28))])
  (.cond (.t 29) (.region [on 0 30 3,
 om 1 31 4,
 oa 2 32 (.bin .add (.c (.int .i64 2)) (.t 31)),
 oa 3 33 (.fieldA 1 (.t 1)),
 oa 4 34 (.loadB 0 none (.t 33)),
 om 5 35 4,
 oa 6 36 (.indexA 1 (.t 34) (.t 35)),
 oa 7 37 (.loadH none (.t 36)),
 oa 8 38 (.bin .add (.t 37) (.c (.int .i64 3))),
 oa 9 39 (.conv .u8 (.t 38)),
 oa 10 40 (.indexA 1 (.t 30) (.t 32)),
 os 11 (.storeH 1 (.t 40) (.t 39))]) .skip)))))
  (.region [om 0 15 4,
 oa 1 16 (.bin .add (.t 15) (.c (.int .i64 1))),
 om 2 4 16]))))))
  (.seq [2] (.region [om 0 41 3,
 om 1 2 41])
  .ret)))))
noncomputable def df_spec_BootBytes : DFun := ⟨1, 42, 1, false, [.tmp 2], dc_spec_BootBytes⟩
noncomputable def pf_spec_BootBytes : PFun := df_spec_BootBytes.er
noncomputable def f_spec_BootBytes : AFun := pf_spec_BootBytes.er
@[irreducible] noncomputable def s_spec_BootBytes : CallSem := funSem f_spec_BootBytes
@[irreducible] noncomputable def p_spec_BootBytes : PSem := pfunSem pf_spec_BootBytes
theorem sp_spec_BootBytes : SoundP s_spec_BootBytes p_spec_BootBytes := by unfold s_spec_BootBytes p_spec_BootBytes; exact pfun_sound (f := pf_spec_BootBytes) ⟨sp_spec_IsReport, trivial⟩
def h_spec_BootBytes : List HT := [.agg [(.frz, .int .i64), (.frz, .sl (.one (.int .i64)))]]
def q_spec_BootBytes : QT := .one (.one .own (.sl (.one (.int .u8))))
@[irreducible] noncomputable def v_spec_BootBytes (x : Int × List (Int)) : List (Int) := fnV df_spec_BootBytes h_spec_BootBytes q_spec_BootBytes x
@[irreducible] noncomputable def ok_spec_BootBytes (x : Int × List (Int)) : Prop := fnOk df_spec_BootBytes h_spec_BootBytes q_spec_BootBytes x
noncomputable def D_spec_BootBytes : DSem := DSemOf h_spec_BootBytes q_spec_BootBytes ok_spec_BootBytes v_spec_BootBytes
theorem ck_spec_BootBytes (x : Int × List (Int)) : fnChk df_spec_BootBytes h_spec_BootBytes q_spec_BootBytes x = true := by kernel_rfl
theorem ob_spec_BootBytes : AllD df_spec_BootBytes.body.obs := ⟨sd_spec_IsReport, trivial⟩
theorem st_spec_BootBytes : fnSt df_spec_BootBytes h_spec_BootBytes q_spec_BootBytes = true := by kernel_rfl
theorem sd_spec_BootBytes : SoundD p_spec_BootBytes D_spec_BootBytes := by unfold p_spec_BootBytes; exact soundD_of (f := df_spec_BootBytes) (hs := h_spec_BootBytes) (q := q_spec_BootBytes) ob_spec_BootBytes st_spec_BootBytes ck_spec_BootBytes (fun x h => by unfold ok_spec_BootBytes at h; exact h) (fun x => by unfold v_spec_BootBytes; rfl)
noncomputable def dc_impl_BootBytes : DCode :=
  (.seq [1] (.region [oa 0 1 (.boxB 0 2 (.t 0)),
 oa 1 2 (.mv (.c .nils))])
  (.seq [1] (.seq [7, 1] (.region [oa 0 5 (.loadB 0 (some 2) (.t 1)),
 oc 1 6 s_impl_IsReport p_impl_IsReport D_impl_IsReport [(.t 5)],
 oa 2 7 (.un .not (.t 6))])
  (.cond (.t 7) (.seq [2] (.region [oa 0 2 (.mv (.c .nils))])
  .ret) .skip))
  (.seq [3, 1] (.region [⟨0, some 8, .a false (.mkSlice 1 [(.int .u8 0)] (.c (.int .i64 8))) (some (.one (.int .u8))), none, []⟩,
 om 1 3 8])
  (.seq [3, 1] (.region [on 0 9 3,
 oa 1 10 (.fieldA 0 (.t 1)),
 oa 2 11 (.loadB 0 none (.t 10)),
 oa 3 12 (.conv .u8 (.t 11)),
 oa 4 13 (.indexA 1 (.t 9) (.c (.int .i64 0))),
 os 5 (.storeH 1 (.t 13) (.t 12))])
  (.seq [3] (.seq [4, 3, 1] (.region [oi 0 4 0])
  (.block 0 (.loop [1, 3, 4] 1 (.seq [4, 3, 1] (.seq [15, 4, 3, 1] (.region [om 0 14 4,
 oa 1 15 (.bin .lss (.t 14) (.c (.int .i64 6)))])
  (.cond (.t 15) .skip (.exit 0)))
  (.seq [4, 3, 1] (.block 1 (.block 2 (.seq [18, 4, 3, 1] (.region [oa 0 19 (.fieldA 1 (.t 1)),
 oa 1 20 (.loadB 0 none (.t 19)),
 oa 2 21 (.len (.t 20)),
 oa 3 22 (.bin .gtr (.t 21) (.c (.int .i64 6))),
 om 4 18 22])
  (.cond (.t 18) (.region [on 0 23 3,
 om 1 24 4,
 oa 2 25 (.bin .add (.t 24) (.c (.int .i64 2))),
 oa 3 26 (.indexA 1 (.t 23) (.t 25)),
 os 4 (.storeH 1 (.t 26) (.c (.int .u8 1)))]) (.seq [27, 4, 3, 1] (.region [om 0 28 4,
 oa 1 29 (.fieldA 1 (.t 1)),
 oa 2 30 (.loadB 0 none (.t 29)),
 oa 3 31 (.len (.t 30)),
 oa 4 32 (.bin .lss (.t 28) (.t 31)),
 om 5 27 32])
  (.cond (.t 27) (.region [on 0 33 3,
 om 1 34 4,
 oa 2 35 (.bin .add (.t 34) (.c (.int .i64 2))),
 oa 3 36 (.fieldA 1 (.t 1)),
 oa 4 37 (.loadB 0 none (.t 36)),
 om 5 38 4,
 oa 6 39 (.indexA 1 (.t 37) (.t 38)),
 oa 7 40 (.loadH none (.t 39)),
 oa 8 41 (.bin .add (.t 40) (.c (.int .i64 3))),
 oa 9 42 (.conv .u8 (.t 41)),
 oa 10 43 (.indexA 1 (.t 33) (.t 35)),
 os 11 (.storeH 1 (.t 43) (.t 42))]) .skip))))))
  (.region [om 0 16 4,
 oa 1 17 (.bin .add (.t 16) (.c (.int .i64 1))),
 om 2 4 17]))))))
  (.seq [2] (.region [om 0 44 3,
 om 1 2 44])
  .ret))))))
noncomputable def df_impl_BootBytes : DFun := ⟨1, 45, 1, false, [.tmp 2], dc_impl_BootBytes⟩
noncomputable def pf_impl_BootBytes : PFun := df_impl_BootBytes.er
noncomputable def f_impl_BootBytes : AFun := pf_impl_BootBytes.er
@[irreducible] noncomputable def s_impl_BootBytes : CallSem := funSem f_impl_BootBytes
@[irreducible] noncomputable def p_impl_BootBytes : PSem := pfunSem pf_impl_BootBytes
theorem sp_impl_BootBytes : SoundP s_impl_BootBytes p_impl_BootBytes := by unfold s_impl_BootBytes p_impl_BootBytes; exact pfun_sound (f := pf_impl_BootBytes) ⟨sp_impl_IsReport, trivial⟩
def h_impl_BootBytes : List HT := [.agg [(.frz, .int .i64), (.frz, .sl (.one (.int .i64)))]]
def q_impl_BootBytes : QT := .one (.one .own (.sl (.one (.int .u8))))
@[irreducible] noncomputable def v_impl_BootBytes (x : Int × List (Int)) : List (Int) := fnV df_impl_BootBytes h_impl_BootBytes q_impl_BootBytes x
@[irreducible] noncomputable def ok_impl_BootBytes (x : Int × List (Int)) : Prop := fnOk df_impl_BootBytes h_impl_BootBytes q_impl_BootBytes x
noncomputable def D_impl_BootBytes : DSem := DSemOf h_impl_BootBytes q_impl_BootBytes ok_impl_BootBytes v_impl_BootBytes
theorem ck_impl_BootBytes (x : Int × List (Int)) : fnChk df_impl_BootBytes h_impl_BootBytes q_impl_BootBytes x = true := by kernel_rfl
theorem ob_impl_BootBytes : AllD df_impl_BootBytes.body.obs := ⟨sd_impl_IsReport, trivial⟩
theorem st_impl_BootBytes : fnSt df_impl_BootBytes h_impl_BootBytes q_impl_BootBytes = true := by kernel_rfl
theorem sd_impl_BootBytes : SoundD p_impl_BootBytes D_impl_BootBytes := by unfold p_impl_BootBytes; exact soundD_of (f := df_impl_BootBytes) (hs := h_impl_BootBytes) (q := q_impl_BootBytes) ob_impl_BootBytes st_impl_BootBytes ck_impl_BootBytes (fun x h => by unfold ok_impl_BootBytes at h; exact h) (fun x => by unfold v_impl_BootBytes; rfl)
noncomputable def dc_laws_FnExactBootBytes : DCode :=
  (.seq [1] (.region [oa 0 1 (.boxB 0 2 (.t 0)),
 oa 1 2 (.mv (.c (.bool false)))])
  (.seq [3, 1] (.region [oi 0 3 1048576])
  (.seq [3, 1] (.region [oa 0 11 (.loadB 0 (some 2) (.t 1)),
 om 1 12 3,
 oc 2 13 s_laws_szReport p_laws_szReport D_laws_szReport [(.t 11), (.t 12)],
 om 3 3 13])
  (.seq [1] (.seq [15, 1] (.region [om 0 14 3,
 oa 1 15 (.bin .lss (.t 14) (.c (.int .i64 0)))])
  (.cond (.t 15) (.seq [2] (.region [oa 0 2 (.mv (.c (.bool true)))])
  .ret) .skip))
  (.seq [4, 1] (.region [oa 0 16 (.loadB 0 (some 2) (.t 1)),
 oc 1 17 s_laws_toReport p_laws_toReport D_laws_toReport [(.t 16)],
 oc 2 18 s_spec_BootBytes p_spec_BootBytes D_spec_BootBytes [(.t 17)],
 on 3 4 18])
  (.seq [5, 4, 1] (.region [oa 0 19 (.loadB 0 (some 2) (.t 1)),
 oc 1 20 s_laws_toReport p_laws_toReport D_laws_toReport [(.t 19)],
 oa 2 5 (.allocB 1 [(.int .i64 0), .nils]),
 os 3 (.storeB 1 2 (.t 5) (.t 20))])
  (.seq [6, 5, 4, 1] (.region [oa 0 21 (.loadB 1 (some 2) (.t 5)),
 oc 1 22 s_impl_BootBytes p_impl_BootBytes D_impl_BootBytes [(.t 21)],
 om 2 6 22])
  (.seq [6, 5, 4, 1] (.seq [26, 6, 5, 4, 1] (.region [on 0 23 6,
 on 1 24 4,
 oc 2 25 s_laws_eqByteS p_laws_eqByteS D_laws_eqByteS [(.t 23), (.t 24)],
 oa 3 26 (.un .not (.t 25))])
  (.cond (.t 26) (.seq [2] (.region [oa 0 2 (.mv (.c (.bool false)))])
  .ret) .skip))
  (.seq [6, 5, 4, 1] (.seq [31, 6, 5, 4, 1] (.region [oa 0 27 (.loadB 1 (some 2) (.t 5)),
 oa 1 28 (.loadB 0 (some 2) (.t 1)),
 xC 2 29 s_laws_toReport p_laws_toReport D_laws_toReport [(.t 28)] [1],
 xC 3 30 s_laws_eqReport p_laws_eqReport D_laws_eqReport [(.t 27), (.t 29)] (rg 3),
 xA 4 31 (.un .not (.t 30)) (rg 4)])
  (.cond (.t 31) (.seq [2] (.region [oa 0 2 (.mv (.c (.bool false)))])
  .ret) .skip))
  (.seq [7, 6, 5, 4, 1] (.region [oi 0 7 1])
  (.seq [7, 6, 4, 1] (.region [oa 0 32 (.loadB 1 (some 2) (.t 5)),
 om 1 33 7,
 ⟨2, some 34, .mark s_laws_markReport M_laws_markReport (.t 32) (.t 33), none, []⟩,
 om 3 7 34])
  (.seq [6, 4, 1] (.seq [42, 6, 4, 1] (.region [om 0 35 7,
 oa 1 36 (.bin .lss (.t 35) (.c (.int .i64 0))),
 om 2 37 36,
 ⟨3, some 38, .a true (.mv (.t 6)) none, (some (37, false)), []⟩,
 ⟨4, some 39, .a true (.mv (.t 4)) none, (some (37, false)), []⟩,
 ⟨5, some 40, .call false s_laws_eqByteS p_laws_eqByteS D_laws_eqByteS [(.t 38), (.t 39)], (some (37, false)), []⟩,
 og 6 41 (.un .not (.t 40)) 37 false,
 oa 7 42 (.pick (.t 37) (.c (.bool true)) (.t 41))])
  (.cond (.t 42) (.seq [2] (.region [oa 0 2 (.mv (.c (.bool false)))])
  .ret) .skip))
  (.seq [8, 6, 4, 1] (.region [oi 0 8 1])
  (.seq [8, 6, 4, 1] (.region [on 0 43 6,
 om 1 44 8,
 ⟨2, some 45, .mark s_laws_markByteS M_laws_markByteS (.t 43) (.t 44), none, []⟩,
 om 3 8 45])
  (.seq [9, 8, 6, 4, 1] (.region [oi 0 9 1])
  (.seq [9, 8, 6, 4, 1] (.region [on 0 46 6,
 om 1 47 9,
 oc 2 48 s_laws_heldByteS p_laws_heldByteS D_laws_heldByteS [(.t 46), (.t 47)],
 om 3 9 48])
  (.seq [9, 8, 6, 4, 1] (.seq [50, 9, 8, 6, 4, 1] (.region [om 0 49 9,
 oa 1 50 (.bin .lss (.t 49) (.c (.int .i64 0)))])
  (.cond (.t 50) (.seq [2] (.region [oa 0 2 (.mv (.c (.bool false)))])
  .ret) .skip))
  (.seq [8, 6, 4, 1] (.seq [53, 8, 6, 4, 1] (.region [om 0 51 9,
 om 1 52 8,
 oa 2 53 (.bin .neq (.t 51) (.t 52))])
  (.cond (.t 53) (.seq [2] (.region [oa 0 2 (.mv (.c (.bool false)))])
  .ret) .skip))
  (.seq [10, 8, 6, 4] (.region [oa 0 54 (.loadB 0 (some 2) (.t 1)),
 oc 1 55 s_laws_toReport p_laws_toReport D_laws_toReport [(.t 54)],
 oc 2 56 s_impl_BootBytes p_impl_BootBytes D_impl_BootBytes [(.t 55)],
 on 3 10 56])
  (.seq [8, 6] (.seq [60, 8, 6] (.region [on 0 57 10,
 on 1 58 4,
 oc 2 59 s_laws_eqByteS p_laws_eqByteS D_laws_eqByteS [(.t 57), (.t 58)],
 oa 3 60 (.un .not (.t 59))])
  (.cond (.t 60) (.seq [2] (.region [oa 0 2 (.mv (.c (.bool false)))])
  .ret) .skip))
  (.seq [9, 8, 6] (.region [oi 0 9 1])
  (.seq [9, 8] (.region [on 0 61 6,
 om 1 62 9,
 oc 2 63 s_laws_heldByteS p_laws_heldByteS D_laws_heldByteS [(.t 61), (.t 62)],
 om 3 9 63])
  (.seq [9, 8] (.seq [65, 9, 8] (.region [om 0 64 9,
 oa 1 65 (.bin .lss (.t 64) (.c (.int .i64 0)))])
  (.cond (.t 65) (.seq [2] (.region [oa 0 2 (.mv (.c (.bool false)))])
  .ret) .skip))
  (.seq [] (.seq [68] (.region [om 0 66 9,
 om 1 67 8,
 oa 2 68 (.bin .neq (.t 66) (.t 67))])
  (.cond (.t 68) (.seq [2] (.region [oa 0 2 (.mv (.c (.bool false)))])
  .ret) .skip))
  (.seq [2] (.region [oa 0 2 (.mv (.c (.bool true)))])
  .ret)))))))))))))))))))))))))
noncomputable def df_laws_FnExactBootBytes : DFun := ⟨1, 69, 2, true, [.tmp 2], dc_laws_FnExactBootBytes⟩
noncomputable def pf_laws_FnExactBootBytes : PFun := df_laws_FnExactBootBytes.er
noncomputable def f_laws_FnExactBootBytes : AFun := pf_laws_FnExactBootBytes.er
@[irreducible] noncomputable def s_laws_FnExactBootBytes : CallSem := funSem f_laws_FnExactBootBytes
@[irreducible] noncomputable def p_laws_FnExactBootBytes : PSem := pfunSem pf_laws_FnExactBootBytes
theorem sp_laws_FnExactBootBytes : SoundP s_laws_FnExactBootBytes p_laws_FnExactBootBytes := by unfold s_laws_FnExactBootBytes p_laws_FnExactBootBytes; exact pfun_sound (f := pf_laws_FnExactBootBytes) ⟨sp_laws_szReport, sp_laws_toReport, sp_spec_BootBytes, sp_laws_toReport, sp_impl_BootBytes, sp_laws_eqByteS, sp_laws_toReport, sp_laws_eqReport, smk_laws_markReport, sp_laws_eqByteS, smk_laws_markByteS, sp_laws_heldByteS, sp_laws_toReport, sp_impl_BootBytes, sp_laws_eqByteS, sp_laws_heldByteS, trivial⟩
def h_laws_FnExactBootBytes : List HT := [.agg [(.frz, .int .i64), (.frz, .sl (.one (.int .i64)))]]
def q_laws_FnExactBootBytes : QT := .one (.one .own (.bool))
@[irreducible] noncomputable def v_laws_FnExactBootBytes (x : Int × List (Int)) : Bool := fnV df_laws_FnExactBootBytes h_laws_FnExactBootBytes q_laws_FnExactBootBytes x
@[irreducible] noncomputable def ok_laws_FnExactBootBytes (x : Int × List (Int)) : Prop := fnOk df_laws_FnExactBootBytes h_laws_FnExactBootBytes q_laws_FnExactBootBytes x
theorem ck_laws_FnExactBootBytes (x : Int × List (Int)) : fnChk df_laws_FnExactBootBytes h_laws_FnExactBootBytes q_laws_FnExactBootBytes x = true := by kernel_rfl
theorem ob_laws_FnExactBootBytes : AllD df_laws_FnExactBootBytes.body.obs := ⟨sd_laws_szReport, sd_laws_toReport, sd_spec_BootBytes, sd_laws_toReport, sd_impl_BootBytes, sd_laws_eqByteS, sd_laws_toReport, sd_laws_eqReport, sd_laws_eqByteS, sd_laws_heldByteS, sd_laws_toReport, sd_impl_BootBytes, sd_laws_eqByteS, sd_laws_heldByteS, trivial⟩
theorem st_laws_FnExactBootBytes : fnSt df_laws_FnExactBootBytes h_laws_FnExactBootBytes q_laws_FnExactBootBytes = true := by kernel_rfl
end
section
set_option maxRecDepth 100000
noncomputable def lc_spec_IsReport_1 (x : Int × List (Int)) (x0 : Int) : Bool := (bAnd (iLt x0 (lLen x.2)) (bNot (bOr (bNot (v_spec_l1In ((lGet x.2 (iNat x0) 0), 1, 56))) (bAnd (iGt x0 0) (iGe (lGet x.2 (iNat (iSub Go.IntKind.i64 x0 1)) 0) (lGet x.2 (iNat x0) 0))))))
noncomputable def lf_spec_IsReport_1 (x0 : Int) : Int := (iAdd Go.IntKind.i64 x0 1)
noncomputable def lp_spec_IsReport_1 (x : Int × List (Int)) (x0 : Int) : Prop := (((iLt x0 (lLen x.2)) = true → ((((0 : Int) ≤ x0) ∧ (x0 < (((List.length x.2) : Int)))) ∧ (((iNat x0) < (List.length x.2)) ∧ ((ok_spec_l1In ((lGet x.2 (iNat x0) 0), 1, 56)) ∧ (((bNot (v_spec_l1In ((lGet x.2 (iNat x0) 0), 1, 56))) = true → True) ∧ ((bNot (v_spec_l1In ((lGet x.2 (iNat x0) 0), 1, 56))) = false → (((iGt x0 0) = true → ((((0 : Int) ≤ (iSub Go.IntKind.i64 x0 1)) ∧ ((iSub Go.IntKind.i64 x0 1) < (((List.length x.2) : Int)))) ∧ (((iNat (iSub Go.IntKind.i64 x0 1)) < (List.length x.2)) ∧ ((((0 : Int) ≤ x0) ∧ (x0 < (((List.length x.2) : Int)))) ∧ ((iNat x0) < (List.length x.2)))))) ∧ ((iGt x0 0) = false → True)))))))) ∧ ((iLt x0 (lLen x.2)) = false → True))
theorem ve_spec_IsReport (x : Int × List (Int)) : v_spec_IsReport x = (bAnd (bNot (iLt (loopV (lc_spec_IsReport_1 x) lf_spec_IsReport_1 0) (lLen x.2))) (v_spec_l1In (x.1, 0, 15))) := by kernel_rfl
theorem oe_spec_IsReport (x : Int × List (Int)) : ok_spec_IsReport x = ((LoopOk (lc_spec_IsReport_1 x) lf_spec_IsReport_1 (lp_spec_IsReport_1 x) 0) ∧ (((iLt (loopV (lc_spec_IsReport_1 x) lf_spec_IsReport_1 0) (lLen x.2)) = true → True) ∧ ((iLt (loopV (lc_spec_IsReport_1 x) lf_spec_IsReport_1 0) (lLen x.2)) = false → (ok_spec_l1In (x.1, 0, 15))))) := by kernel_rfl
noncomputable def lc_impl_IsReport_1 (x : Int × List (Int)) (x0 : Int) : Bool := (bAnd (iLt x0 (lLen x.2)) (bNot (bOr (bNot (v_impl_isCode (lGet x.2 (iNat x0) 0))) (bAnd (iGt x0 0) (iGe (lGet x.2 (iNat (iSub Go.IntKind.i64 x0 1)) 0) (lGet x.2 (iNat x0) 0))))))
noncomputable def lf_impl_IsReport_1 (x0 : Int) : Int := (iAdd Go.IntKind.i64 x0 1)
noncomputable def lp_impl_IsReport_1 (x : Int × List (Int)) (x0 : Int) : Prop := (((iLt x0 (lLen x.2)) = true → ((((0 : Int) ≤ x0) ∧ (x0 < (((List.length x.2) : Int)))) ∧ (((iNat x0) < (List.length x.2)) ∧ ((ok_impl_isCode (lGet x.2 (iNat x0) 0)) ∧ (((bNot (v_impl_isCode (lGet x.2 (iNat x0) 0))) = true → True) ∧ ((bNot (v_impl_isCode (lGet x.2 (iNat x0) 0))) = false → (((iGt x0 0) = true → ((((0 : Int) ≤ (iSub Go.IntKind.i64 x0 1)) ∧ ((iSub Go.IntKind.i64 x0 1) < (((List.length x.2) : Int)))) ∧ ((iNat (iSub Go.IntKind.i64 x0 1)) < (List.length x.2)))) ∧ ((iGt x0 0) = false → True)))))))) ∧ ((iLt x0 (lLen x.2)) = false → True))
theorem ve_impl_IsReport (x : Int × List (Int)) : v_impl_IsReport x = (bAnd (bNot (bOr (iLt x.1 0) (iGt x.1 15))) (bNot (iLt (loopV (lc_impl_IsReport_1 x) lf_impl_IsReport_1 0) (lLen x.2)))) := by kernel_rfl
theorem oe_impl_IsReport (x : Int × List (Int)) : ok_impl_IsReport x = (((bOr (iLt x.1 0) (iGt x.1 15)) = true → True) ∧ ((bOr (iLt x.1 0) (iGt x.1 15)) = false → (LoopOk (lc_impl_IsReport_1 x) lf_impl_IsReport_1 (lp_impl_IsReport_1 x) 0))) := by kernel_rfl
noncomputable def lc_spec_BootBytes_1 (x0 : ((List Int) × Int)) : Bool := (iLt x0.2 6)
noncomputable def lf_spec_BootBytes_1 (x : Int × List (Int)) (x0 : ((List Int) × Int)) : ((List Int) × Int) := ((bSel (iGt (lLen x.2) 6) (lSet x0.1 (iNat (iAdd Go.IntKind.i64 2 x0.2)) 1) (bSel (iLt x0.2 (lLen x.2)) (lSet x0.1 (iNat (iAdd Go.IntKind.i64 2 x0.2)) (iConv Go.IntKind.u8 (iAdd Go.IntKind.i64 (lGet x.2 (iNat x0.2) 0) 3))) x0.1)), (iAdd Go.IntKind.i64 x0.2 1))
noncomputable def lp_spec_BootBytes_1 (x : Int × List (Int)) (x0 : ((List Int) × Int)) : Prop := (((iLt x0.2 6) = true → (((iGt (lLen x.2) 6) = true → ((((0 : Int) ≤ (iAdd Go.IntKind.i64 2 x0.2)) ∧ ((iAdd Go.IntKind.i64 2 x0.2) < (((List.length x0.1) : Int)))) ∧ ((iNat (iAdd Go.IntKind.i64 2 x0.2)) < (List.length x0.1)))) ∧ ((iGt (lLen x.2) 6) = false → (((iLt x0.2 (lLen x.2)) = true → ((((0 : Int) ≤ x0.2) ∧ (x0.2 < (((List.length x.2) : Int)))) ∧ (((iNat x0.2) < (List.length x.2)) ∧ ((((0 : Int) ≤ (iAdd Go.IntKind.i64 2 x0.2)) ∧ ((iAdd Go.IntKind.i64 2 x0.2) < (((List.length x0.1) : Int)))) ∧ ((iNat (iAdd Go.IntKind.i64 2 x0.2)) < (List.length x0.1)))))) ∧ ((iLt x0.2 (lLen x.2)) = false → True))))) ∧ ((iLt x0.2 6) = false → True))
theorem ve_spec_BootBytes (x : Int × List (Int)) : v_spec_BootBytes x = (bSel (bNot (v_spec_IsReport (x.1, x.2))) [] (loopV lc_spec_BootBytes_1 (lf_spec_BootBytes_1 x) ([(iConv Go.IntKind.u8 x.1), 0, 0, 0, 0, 0, 0, 0], 0)).1) := by kernel_rfl
theorem oe_spec_BootBytes (x : Int × List (Int)) : ok_spec_BootBytes x = ((ok_spec_IsReport (x.1, x.2)) ∧ (((bNot (v_spec_IsReport (x.1, x.2))) = true → True) ∧ ((bNot (v_spec_IsReport (x.1, x.2))) = false → (LoopOk lc_spec_BootBytes_1 (lf_spec_BootBytes_1 x) (lp_spec_BootBytes_1 x) ([(iConv Go.IntKind.u8 x.1), 0, 0, 0, 0, 0, 0, 0], 0))))) := by kernel_rfl
noncomputable def lc_impl_BootBytes_1 (x0 : ((List Int) × Int)) : Bool := (iLt x0.2 6)
noncomputable def lf_impl_BootBytes_1 (x : Int × List (Int)) (x0 : ((List Int) × Int)) : ((List Int) × Int) := ((bSel (iGt (lLen x.2) 6) (lSet x0.1 (iNat (iAdd Go.IntKind.i64 x0.2 2)) 1) (bSel (iLt x0.2 (lLen x.2)) (lSet x0.1 (iNat (iAdd Go.IntKind.i64 x0.2 2)) (iConv Go.IntKind.u8 (iAdd Go.IntKind.i64 (lGet x.2 (iNat x0.2) 0) 3))) x0.1)), (iAdd Go.IntKind.i64 x0.2 1))
noncomputable def lp_impl_BootBytes_1 (x : Int × List (Int)) (x0 : ((List Int) × Int)) : Prop := (((iLt x0.2 6) = true → (((iGt (lLen x.2) 6) = true → ((((0 : Int) ≤ (iAdd Go.IntKind.i64 x0.2 2)) ∧ ((iAdd Go.IntKind.i64 x0.2 2) < (((List.length x0.1) : Int)))) ∧ ((iNat (iAdd Go.IntKind.i64 x0.2 2)) < (List.length x0.1)))) ∧ ((iGt (lLen x.2) 6) = false → (((iLt x0.2 (lLen x.2)) = true → ((((0 : Int) ≤ x0.2) ∧ (x0.2 < (((List.length x.2) : Int)))) ∧ (((iNat x0.2) < (List.length x.2)) ∧ ((((0 : Int) ≤ (iAdd Go.IntKind.i64 x0.2 2)) ∧ ((iAdd Go.IntKind.i64 x0.2 2) < (((List.length x0.1) : Int)))) ∧ ((iNat (iAdd Go.IntKind.i64 x0.2 2)) < (List.length x0.1)))))) ∧ ((iLt x0.2 (lLen x.2)) = false → True))))) ∧ ((iLt x0.2 6) = false → True))
theorem ve_impl_BootBytes (x : Int × List (Int)) : v_impl_BootBytes x = (bSel (bNot (v_impl_IsReport (x.1, x.2))) [] (loopV lc_impl_BootBytes_1 (lf_impl_BootBytes_1 x) ((lSet (lRep 8 0) (iNat 0) (iConv Go.IntKind.u8 x.1)), 0)).1) := by kernel_rfl
theorem oe_impl_BootBytes (x : Int × List (Int)) : ok_impl_BootBytes x = ((ok_impl_IsReport (x.1, x.2)) ∧ (((bNot (v_impl_IsReport (x.1, x.2))) = true → True) ∧ ((bNot (v_impl_IsReport (x.1, x.2))) = false → ((((0 : Int) ≤ 8) ∧ (roomy 8)) ∧ ((((0 : Int) ≤ 0) ∧ ((0 : Int) < (((List.length (lRep 8 0)) : Int)))) ∧ (((iNat 0) < (List.length (lRep 8 0))) ∧ (LoopOk lc_impl_BootBytes_1 (lf_impl_BootBytes_1 x) (lp_impl_BootBytes_1 x) ((lSet (lRep 8 0) (iNat 0) (iConv Go.IntKind.u8 x.1)), 0)))))))) := by kernel_rfl
theorem ve_laws_FnExactBootBytes (x : Int × List (Int)) : v_laws_FnExactBootBytes x = (bOr (iLt (v_laws_szReport ((x.1, x.2), 1048576)) 0) (bAnd (bNot (bNot (v_laws_eqByteS ((v_impl_BootBytes ((v_laws_toReport (x.1, x.2)).1, (v_laws_toReport (x.1, x.2)).2)), (v_spec_BootBytes ((v_laws_toReport (x.1, x.2)).1, (v_laws_toReport (x.1, x.2)).2)))))) (bAnd (bNot (bNot (v_laws_eqReport (((v_laws_toReport (x.1, x.2)).1, (v_laws_toReport (x.1, x.2)).2), (v_laws_toReport (x.1, x.2)).1, (v_laws_toReport (x.1, x.2)).2)))) (bAnd (bNot (bOr (iLt (mg_laws_markReport ((v_laws_toReport (x.1, x.2)).1, (v_laws_toReport (x.1, x.2)).2) 1).2 0) (bNot (v_laws_eqByteS ((v_impl_BootBytes ((v_laws_toReport (x.1, x.2)).1, (v_laws_toReport (x.1, x.2)).2)), (v_spec_BootBytes ((v_laws_toReport (x.1, x.2)).1, (v_laws_toReport (x.1, x.2)).2))))))) (bAnd (bNot (iLt (v_laws_heldByteS ((mg_laws_markByteS (v_impl_BootBytes ((v_laws_toReport (x.1, x.2)).1, (v_laws_toReport (x.1, x.2)).2)) 1).1, 1)) 0)) (bAnd (bNot (iNe (v_laws_heldByteS ((mg_laws_markByteS (v_impl_BootBytes ((v_laws_toReport (x.1, x.2)).1, (v_laws_toReport (x.1, x.2)).2)) 1).1, 1)) (mg_laws_markByteS (v_impl_BootBytes ((v_laws_toReport (x.1, x.2)).1, (v_laws_toReport (x.1, x.2)).2)) 1).2)) (bAnd (bNot (bNot (v_laws_eqByteS ((v_impl_BootBytes ((v_laws_toReport (x.1, x.2)).1, (v_laws_toReport (x.1, x.2)).2)), (v_spec_BootBytes ((v_laws_toReport (x.1, x.2)).1, (v_laws_toReport (x.1, x.2)).2)))))) (bAnd (bNot (iLt (v_laws_heldByteS ((mg_laws_markByteS (v_impl_BootBytes ((v_laws_toReport (x.1, x.2)).1, (v_laws_toReport (x.1, x.2)).2)) 1).1, 1)) 0)) (bNot (iNe (v_laws_heldByteS ((mg_laws_markByteS (v_impl_BootBytes ((v_laws_toReport (x.1, x.2)).1, (v_laws_toReport (x.1, x.2)).2)) 1).1, 1)) (mg_laws_markByteS (v_impl_BootBytes ((v_laws_toReport (x.1, x.2)).1, (v_laws_toReport (x.1, x.2)).2)) 1).2)))))))))) := by kernel_rfl
theorem oe_laws_FnExactBootBytes (x : Int × List (Int)) : ok_laws_FnExactBootBytes x = ((ok_laws_szReport ((x.1, x.2), 1048576)) ∧ (((iLt (v_laws_szReport ((x.1, x.2), 1048576)) 0) = true → True) ∧ ((iLt (v_laws_szReport ((x.1, x.2), 1048576)) 0) = false → ((ok_laws_toReport (x.1, x.2)) ∧ ((ok_spec_BootBytes ((v_laws_toReport (x.1, x.2)).1, (v_laws_toReport (x.1, x.2)).2)) ∧ ((ok_laws_toReport (x.1, x.2)) ∧ ((ok_impl_BootBytes ((v_laws_toReport (x.1, x.2)).1, (v_laws_toReport (x.1, x.2)).2)) ∧ ((ok_laws_eqByteS ((v_impl_BootBytes ((v_laws_toReport (x.1, x.2)).1, (v_laws_toReport (x.1, x.2)).2)), (v_spec_BootBytes ((v_laws_toReport (x.1, x.2)).1, (v_laws_toReport (x.1, x.2)).2)))) ∧ (((bNot (v_laws_eqByteS ((v_impl_BootBytes ((v_laws_toReport (x.1, x.2)).1, (v_laws_toReport (x.1, x.2)).2)), (v_spec_BootBytes ((v_laws_toReport (x.1, x.2)).1, (v_laws_toReport (x.1, x.2)).2))))) = true → True) ∧ ((bNot (v_laws_eqByteS ((v_impl_BootBytes ((v_laws_toReport (x.1, x.2)).1, (v_laws_toReport (x.1, x.2)).2)), (v_spec_BootBytes ((v_laws_toReport (x.1, x.2)).1, (v_laws_toReport (x.1, x.2)).2))))) = false → ((ok_laws_toReport (x.1, x.2)) ∧ ((ok_laws_eqReport (((v_laws_toReport (x.1, x.2)).1, (v_laws_toReport (x.1, x.2)).2), (v_laws_toReport (x.1, x.2)).1, (v_laws_toReport (x.1, x.2)).2)) ∧ (((bNot (v_laws_eqReport (((v_laws_toReport (x.1, x.2)).1, (v_laws_toReport (x.1, x.2)).2), (v_laws_toReport (x.1, x.2)).1, (v_laws_toReport (x.1, x.2)).2))) = true → True) ∧ ((bNot (v_laws_eqReport (((v_laws_toReport (x.1, x.2)).1, (v_laws_toReport (x.1, x.2)).2), (v_laws_toReport (x.1, x.2)).1, (v_laws_toReport (x.1, x.2)).2))) = false → ((((List.length (v_laws_toReport (x.1, x.2)).2) = (List.length (v_laws_toReport (x.1, x.2)).2)) ∧ (DMk.ok (DMk.mk (RT.cons (CT.int Go.IntKind.i64) (RT.one (CT.sl (RT.one (CT.int Go.IntKind.i64))))) true mok_laws_markReport mg_laws_markReport) ((v_laws_toReport (x.1, x.2)).1, (v_laws_toReport (x.1, x.2)).2))) ∧ ((((iLt (mg_laws_markReport ((v_laws_toReport (x.1, x.2)).1, (v_laws_toReport (x.1, x.2)).2) 1).2 0) = true → True) ∧ ((iLt (mg_laws_markReport ((v_laws_toReport (x.1, x.2)).1, (v_laws_toReport (x.1, x.2)).2) 1).2 0) = false → (ok_laws_eqByteS ((v_impl_BootBytes ((v_laws_toReport (x.1, x.2)).1, (v_laws_toReport (x.1, x.2)).2)), (v_spec_BootBytes ((v_laws_toReport (x.1, x.2)).1, (v_laws_toReport (x.1, x.2)).2)))))) ∧ (((bOr (iLt (mg_laws_markReport ((v_laws_toReport (x.1, x.2)).1, (v_laws_toReport (x.1, x.2)).2) 1).2 0) (bNot (v_laws_eqByteS ((v_impl_BootBytes ((v_laws_toReport (x.1, x.2)).1, (v_laws_toReport (x.1, x.2)).2)), (v_spec_BootBytes ((v_laws_toReport (x.1, x.2)).1, (v_laws_toReport (x.1, x.2)).2)))))) = true → True) ∧ ((bOr (iLt (mg_laws_markReport ((v_laws_toReport (x.1, x.2)).1, (v_laws_toReport (x.1, x.2)).2) 1).2 0) (bNot (v_laws_eqByteS ((v_impl_BootBytes ((v_laws_toReport (x.1, x.2)).1, (v_laws_toReport (x.1, x.2)).2)), (v_spec_BootBytes ((v_laws_toReport (x.1, x.2)).1, (v_laws_toReport (x.1, x.2)).2)))))) = false → ((((List.length (v_impl_BootBytes ((v_laws_toReport (x.1, x.2)).1, (v_laws_toReport (x.1, x.2)).2))) = (List.length (v_impl_BootBytes ((v_laws_toReport (x.1, x.2)).1, (v_laws_toReport (x.1, x.2)).2)))) ∧ (DMk.ok (DMk.mk (RT.one (CT.sl (RT.one (CT.int Go.IntKind.u8)))) false mok_laws_markByteS mg_laws_markByteS) (v_impl_BootBytes ((v_laws_toReport (x.1, x.2)).1, (v_laws_toReport (x.1, x.2)).2)))) ∧ ((ok_laws_heldByteS ((mg_laws_markByteS (v_impl_BootBytes ((v_laws_toReport (x.1, x.2)).1, (v_laws_toReport (x.1, x.2)).2)) 1).1, 1)) ∧ (((iLt (v_laws_heldByteS ((mg_laws_markByteS (v_impl_BootBytes ((v_laws_toReport (x.1, x.2)).1, (v_laws_toReport (x.1, x.2)).2)) 1).1, 1)) 0) = true → True) ∧ ((iLt (v_laws_heldByteS ((mg_laws_markByteS (v_impl_BootBytes ((v_laws_toReport (x.1, x.2)).1, (v_laws_toReport (x.1, x.2)).2)) 1).1, 1)) 0) = false → (((iNe (v_laws_heldByteS ((mg_laws_markByteS (v_impl_BootBytes ((v_laws_toReport (x.1, x.2)).1, (v_laws_toReport (x.1, x.2)).2)) 1).1, 1)) (mg_laws_markByteS (v_impl_BootBytes ((v_laws_toReport (x.1, x.2)).1, (v_laws_toReport (x.1, x.2)).2)) 1).2) = true → True) ∧ ((iNe (v_laws_heldByteS ((mg_laws_markByteS (v_impl_BootBytes ((v_laws_toReport (x.1, x.2)).1, (v_laws_toReport (x.1, x.2)).2)) 1).1, 1)) (mg_laws_markByteS (v_impl_BootBytes ((v_laws_toReport (x.1, x.2)).1, (v_laws_toReport (x.1, x.2)).2)) 1).2) = false → ((ok_laws_toReport (x.1, x.2)) ∧ ((ok_impl_BootBytes ((v_laws_toReport (x.1, x.2)).1, (v_laws_toReport (x.1, x.2)).2)) ∧ ((ok_laws_eqByteS ((v_impl_BootBytes ((v_laws_toReport (x.1, x.2)).1, (v_laws_toReport (x.1, x.2)).2)), (v_spec_BootBytes ((v_laws_toReport (x.1, x.2)).1, (v_laws_toReport (x.1, x.2)).2)))) ∧ (((bNot (v_laws_eqByteS ((v_impl_BootBytes ((v_laws_toReport (x.1, x.2)).1, (v_laws_toReport (x.1, x.2)).2)), (v_spec_BootBytes ((v_laws_toReport (x.1, x.2)).1, (v_laws_toReport (x.1, x.2)).2))))) = true → True) ∧ ((bNot (v_laws_eqByteS ((v_impl_BootBytes ((v_laws_toReport (x.1, x.2)).1, (v_laws_toReport (x.1, x.2)).2)), (v_spec_BootBytes ((v_laws_toReport (x.1, x.2)).1, (v_laws_toReport (x.1, x.2)).2))))) = false → (ok_laws_heldByteS ((mg_laws_markByteS (v_impl_BootBytes ((v_laws_toReport (x.1, x.2)).1, (v_laws_toReport (x.1, x.2)).2)) 1).1, 1))))))))))))))))))))))))))))))) := by kernel_rfl
end
def RepOk (x : Int × List Int) : Prop := (0 ≤ x.1 ∧ x.1 ≤ 15) ∧ ∀ i, i < x.2.length → (1 ≤ x.2.getD i 0 ∧ x.2.getD i 0 ≤ 56) ∧ (0 < i → x.2.getD (i - 1) 0 < x.2.getD i 0)
theorem RepOk.code {x : Int × List Int} (h : RepOk x) (i : Nat) (hi : i < x.2.length) : (i : Int) + 1 ≤ x.2.getD i 0 := by
  induction i with
  | zero => have := (h.2 0 hi).1; omega
  | succ i ih =>
    have h1 := ih (by omega)
    have h2 := (h.2 (i + 1) hi).2 (by omega)
    rw [Nat.add_sub_cancel] at h2
    omega
theorem RepOk.len {x : Int × List Int} (h : RepOk x) : x.2.length ≤ 56 := by
  rcases Nat.lt_or_ge 56 x.2.length with h1 | h1
  · have h2 := h.code 56 h1
    have h3 := (h.2 56 h1).1
    omega
  · exact h1
def repBad (l : List Int) (i : Nat) : Bool := !(decide (1 ≤ l.getD i 0) && decide (l.getD i 0 ≤ 56)) || (decide (0 < i) && decide (l.getD i 0 ≤ l.getD (i - 1) 0))
theorem repBad_iff {m : Int} {l : List Int} : ((0 ≤ m ∧ m ≤ 15) ∧ ∀ i, i < l.length → repBad l i = false) ↔ RepOk (m, l) := by
  unfold RepOk repBad
  refine and_congr Iff.rfl (forall_congr' fun i => imp_congr Iff.rfl ?_)
  simp only [Bool.or_eq_false_iff, Bool.not_eq_false', Bool.and_eq_true, decide_eq_true_eq, Bool.and_eq_false_iff, decide_eq_false_iff_not]
  omega
theorem isReport_spec (m : Int) (l : List Int) (h : l.length ≤ 1048576) : ok_spec_IsReport (m, l) ∧ (v_spec_IsReport (m, l) = true ↔ RepOk (m, l)) := by
  rw [oe_spec_IsReport, ve_spec_IsReport]
  obtain ⟨a1, a2⟩ := scan_loop (c := lc_spec_IsReport_1 (m, l)) (f := lf_spec_IsReport_1) (p := lp_spec_IsReport_1 (m, l)) l.length (repBad l) (by omega) (fun i hi => by
    simp only [lc_spec_IsReport_1, repBad, l1In_eq, lLen_eq, lGet_eq, iNat_eq, bAnd_eq, bNot_eq, bOr_eq, iLt_eq, iGt_eq, iGe_eq, Int.toNat_natCast]
    by_cases h0 : 0 < i
    · rw [iSub_i64 (by unfold In64; omega)]
      have e : ((i : Int) - 1).toNat = i - 1 := by omega
      rw [e]; simp [h0]
    · simp [h0]) (fun i _ => rfl) (fun i hi => by
    unfold lp_spec_IsReport_1
    repeat' (first | exact trivial | assumption | decide | apply And.intro | (intro hh; (try simp (disch := first | omega | (unfold In64; omega)) only [lLen_eq, lN_eq, lGet_eq, iNat_eq, lSet_eq, lApp_eq, lSub_eq, lRep_eq, List.length_set, List.length_append, List.length_cons, List.length_nil, List.length_replicate, List.length_take, List.length_drop, Int.toNat_natCast, Nat.mul_one, Nat.zero_add, iAdd_i64, iSub_i64, iMul_i64, iQuo_i64, iRem_nn, conv_i64, ok_l1In, iLt_eq, iLe_eq, iGt_eq, iGe_eq, iEq_eq, iNe_eq, bNot_eq, bAnd_eq, bOr_eq, Bool.and_eq_true, Bool.or_eq_true, Bool.and_eq_false_iff, Bool.or_eq_false_iff, Bool.not_eq_true', Bool.not_eq_false', decide_eq_true_eq, decide_eq_false_iff_not, Bool.not_not] at hh)) | omega | (unfold roomy; simp (disch := first | omega | (unfold In64; omega)) only [lLen_eq, lN_eq, lGet_eq, iNat_eq, lSet_eq, lApp_eq, lSub_eq, lRep_eq, List.length_set, List.length_append, List.length_cons, List.length_nil, List.length_replicate, List.length_take, List.length_drop, Int.toNat_natCast, Nat.mul_one, Nat.zero_add, iAdd_i64, iSub_i64, iMul_i64, iQuo_i64, iRem_nn, conv_i64, ok_l1In]; omega) | (simp (disch := first | omega | (unfold In64; omega)) only [lLen_eq, lN_eq, lGet_eq, iNat_eq, lSet_eq, lApp_eq, lSub_eq, lRep_eq, List.length_set, List.length_append, List.length_cons, List.length_nil, List.length_replicate, List.length_take, List.length_drop, Int.toNat_natCast, Nat.mul_one, Nat.zero_add, iAdd_i64, iSub_i64, iMul_i64, iQuo_i64, iRem_nn, conv_i64, ok_l1In]; done) | (simp (disch := first | omega | (unfold In64; omega)) only [lLen_eq, lN_eq, lGet_eq, iNat_eq, lSet_eq, lApp_eq, lSub_eq, lRep_eq, List.length_set, List.length_append, List.length_cons, List.length_nil, List.length_replicate, List.length_take, List.length_drop, Int.toNat_natCast, Nat.mul_one, Nat.zero_add, iAdd_i64, iSub_i64, iMul_i64, iQuo_i64, iRem_nn, conv_i64, ok_l1In]; omega)))
  refine ⟨⟨a1, fun _ => trivial, fun _ => ok_l1In _⟩, ?_⟩
  have hle := firstAt_le (repBad l) l.length 0
  rw [← repBad_iff, ← firstAt_all, a2, l1In_eq]
  simp only [bAnd_eq, bNot_eq, iLt_eq, lLen_eq, Bool.and_eq_true, Bool.not_eq_true', decide_eq_false_iff_not, decide_eq_true_eq]
  omega
theorem isReport_impl (m : Int) (l : List Int) (h : l.length ≤ 1048576) : ok_impl_IsReport (m, l) ∧ (v_impl_IsReport (m, l) = true ↔ RepOk (m, l)) := by
  rw [oe_impl_IsReport, ve_impl_IsReport]
  obtain ⟨a1, a2⟩ := scan_loop (c := lc_impl_IsReport_1 (m, l)) (f := lf_impl_IsReport_1) (p := lp_impl_IsReport_1 (m, l)) l.length (repBad l) (by omega) (fun i hi => by
    simp only [lc_impl_IsReport_1, repBad, isCode_eq, lLen_eq, lGet_eq, iNat_eq, bAnd_eq, bNot_eq, bOr_eq, iLt_eq, iGt_eq, iGe_eq, Int.toNat_natCast]
    by_cases h0 : 0 < i
    · rw [iSub_i64 (by unfold In64; omega)]
      have e : ((i : Int) - 1).toNat = i - 1 := by omega
      rw [e]; simp [h0]
    · simp [h0]) (fun i _ => rfl) (fun i hi => by
    unfold lp_impl_IsReport_1
    repeat' (first | exact trivial | assumption | decide | apply And.intro | (intro hh; (try simp (disch := first | omega | (unfold In64; omega)) only [lLen_eq, lN_eq, lGet_eq, iNat_eq, lSet_eq, lApp_eq, lSub_eq, lRep_eq, List.length_set, List.length_append, List.length_cons, List.length_nil, List.length_replicate, List.length_take, List.length_drop, Int.toNat_natCast, Nat.mul_one, Nat.zero_add, iAdd_i64, iSub_i64, iMul_i64, iQuo_i64, iRem_nn, conv_i64, ok_isCode, iLt_eq, iLe_eq, iGt_eq, iGe_eq, iEq_eq, iNe_eq, bNot_eq, bAnd_eq, bOr_eq, Bool.and_eq_true, Bool.or_eq_true, Bool.and_eq_false_iff, Bool.or_eq_false_iff, Bool.not_eq_true', Bool.not_eq_false', decide_eq_true_eq, decide_eq_false_iff_not, Bool.not_not] at hh)) | omega | (unfold roomy; simp (disch := first | omega | (unfold In64; omega)) only [lLen_eq, lN_eq, lGet_eq, iNat_eq, lSet_eq, lApp_eq, lSub_eq, lRep_eq, List.length_set, List.length_append, List.length_cons, List.length_nil, List.length_replicate, List.length_take, List.length_drop, Int.toNat_natCast, Nat.mul_one, Nat.zero_add, iAdd_i64, iSub_i64, iMul_i64, iQuo_i64, iRem_nn, conv_i64, ok_isCode]; omega) | (simp (disch := first | omega | (unfold In64; omega)) only [lLen_eq, lN_eq, lGet_eq, iNat_eq, lSet_eq, lApp_eq, lSub_eq, lRep_eq, List.length_set, List.length_append, List.length_cons, List.length_nil, List.length_replicate, List.length_take, List.length_drop, Int.toNat_natCast, Nat.mul_one, Nat.zero_add, iAdd_i64, iSub_i64, iMul_i64, iQuo_i64, iRem_nn, conv_i64, ok_isCode]; done) | (simp (disch := first | omega | (unfold In64; omega)) only [lLen_eq, lN_eq, lGet_eq, iNat_eq, lSet_eq, lApp_eq, lSub_eq, lRep_eq, List.length_set, List.length_append, List.length_cons, List.length_nil, List.length_replicate, List.length_take, List.length_drop, Int.toNat_natCast, Nat.mul_one, Nat.zero_add, iAdd_i64, iSub_i64, iMul_i64, iQuo_i64, iRem_nn, conv_i64, ok_isCode]; omega)))
  refine ⟨⟨fun _ => trivial, fun _ => a1⟩, ?_⟩
  have hle := firstAt_le (repBad l) l.length 0
  rw [← repBad_iff, ← firstAt_all, a2]
  simp only [bAnd_eq, bNot_eq, bOr_eq, iLt_eq, iGt_eq, lLen_eq, Bool.and_eq_true, Bool.not_eq_true', Bool.or_eq_false_iff, decide_eq_false_iff_not, decide_eq_true_eq]
  omega
theorem isReport_two (x : Int × List Int) (h : x.2.length ≤ 1048576) : ok_spec_IsReport x ∧ ok_impl_IsReport x ∧ v_impl_IsReport x = v_spec_IsReport x ∧ (v_spec_IsReport x = true ↔ RepOk x) := by
  obtain ⟨m, l⟩ := x
  obtain ⟨a1, a2⟩ := isReport_spec m l h
  obtain ⟨b1, b2⟩ := isReport_impl m l h
  exact ⟨a1, b1, by rw [Bool.eq_iff_iff, a2, b2], a2⟩
theorem wl_Report_of {m : Int} {l : List Int} (h : l.length ≤ maxLen) : wl_Report (m, l) := ⟨h, trivial⟩
theorem iAdd_comm (k : IntKind) (a b : Int) : iAdd k a b = iAdd k b a := by unfold iAdd; rw [Int.add_comm]
theorem bootBytes_two (x : Int × List Int) (h : x.2.length ≤ 1048576) : ok_spec_BootBytes x ∧ ok_impl_BootBytes x ∧ v_impl_BootBytes x = v_spec_BootBytes x ∧ (v_spec_BootBytes x).length ≤ 8 := by
  obtain ⟨a1, a2, a3, a4⟩ := isReport_two x h
  rw [oe_spec_BootBytes, oe_impl_BootBytes, ve_spec_BootBytes, ve_impl_BootBytes]
  have e1 : lc_impl_BootBytes_1 = lc_spec_BootBytes_1 := rfl
  have e2 : lf_impl_BootBytes_1 x = lf_spec_BootBytes_1 x := by
    funext s
    simp only [lf_impl_BootBytes_1, lf_spec_BootBytes_1, iAdd_comm .i64 s.2 2]
  have e3 : lSet (lRep 8 (0 : Int)) (iNat 0) (iConv .u8 x.1) = [(iConv .u8 x.1), 0, 0, 0, 0, 0, 0, 0] := by rw [lSet_eq, lRep_eq, iNat_eq]; rfl
  rw [e1, e2, a3, e3]
  cases hv : v_spec_IsReport x with
  | false =>
    simp [hv, a1, a2, bSel_eq, bNot_eq, a3]
  | true =>
    have hr := a4.1 hv
    have hlen := hr.len
    obtain ⟨b1, b2, b3, b4⟩ := loop_two (c := lc_spec_BootBytes_1) (f := lf_spec_BootBytes_1 x) (p := lp_spec_BootBytes_1 x) (d := lc_spec_BootBytes_1) (g := lf_spec_BootBytes_1 x) (q := lp_impl_BootBytes_1 x) (x0 := ([(iConv .u8 x.1), 0, 0, 0, 0, 0, 0, 0], 0)) (y0 := ([(iConv .u8 x.1), 0, 0, 0, 0, 0, 0, 0], 0))
      (fun s t => s = t ∧ s.1.length = 8 ∧ 0 ≤ s.2 ∧ s.2 ≤ 6) (fun s => 6 - s.2.toNat) (by
        rintro ⟨o, i⟩ t ⟨rfl, h1, h2, h3⟩
        simp only at h1 h2 h3
        have e5 : iAdd .i64 2 i = 2 + i := iAdd_i64 (by unfold In64; omega)
        have e6 : iAdd .i64 i 2 = i + 2 := iAdd_i64 (by unfold In64; omega)
        refine ⟨?_, ?_, rfl, fun hcc => ?_⟩
        · unfold lp_spec_BootBytes_1
          simp only [e5]
          repeat' (first | exact trivial | assumption | decide | apply And.intro | (intro hh; (try simp (disch := first | omega | (unfold In64; omega)) only [lLen_eq, lN_eq, lGet_eq, iNat_eq, lSet_eq, lApp_eq, lSub_eq, lRep_eq, List.length_set, List.length_append, List.length_cons, List.length_nil, List.length_replicate, List.length_take, List.length_drop, Int.toNat_natCast, Nat.mul_one, Nat.zero_add, iAdd_i64, iSub_i64, iMul_i64, iQuo_i64, iRem_nn, conv_i64, iLt_eq, iLe_eq, iGt_eq, iGe_eq, iEq_eq, iNe_eq, bNot_eq, bAnd_eq, bOr_eq, Bool.and_eq_true, Bool.or_eq_true, Bool.and_eq_false_iff, Bool.or_eq_false_iff, Bool.not_eq_true', Bool.not_eq_false', decide_eq_true_eq, decide_eq_false_iff_not, Bool.not_not] at hh)) | omega | (unfold roomy; simp (disch := first | omega | (unfold In64; omega)) only [lLen_eq, lN_eq, lGet_eq, iNat_eq, lSet_eq, lApp_eq, lSub_eq, lRep_eq, List.length_set, List.length_append, List.length_cons, List.length_nil, List.length_replicate, List.length_take, List.length_drop, Int.toNat_natCast, Nat.mul_one, Nat.zero_add, iAdd_i64, iSub_i64, iMul_i64, iQuo_i64, iRem_nn, conv_i64]; omega) | (simp (disch := first | omega | (unfold In64; omega)) only [lLen_eq, lN_eq, lGet_eq, iNat_eq, lSet_eq, lApp_eq, lSub_eq, lRep_eq, List.length_set, List.length_append, List.length_cons, List.length_nil, List.length_replicate, List.length_take, List.length_drop, Int.toNat_natCast, Nat.mul_one, Nat.zero_add, iAdd_i64, iSub_i64, iMul_i64, iQuo_i64, iRem_nn, conv_i64]; done) | (simp (disch := first | omega | (unfold In64; omega)) only [lLen_eq, lN_eq, lGet_eq, iNat_eq, lSet_eq, lApp_eq, lSub_eq, lRep_eq, List.length_set, List.length_append, List.length_cons, List.length_nil, List.length_replicate, List.length_take, List.length_drop, Int.toNat_natCast, Nat.mul_one, Nat.zero_add, iAdd_i64, iSub_i64, iMul_i64, iQuo_i64, iRem_nn, conv_i64]; omega))
        · unfold lp_impl_BootBytes_1
          simp only [e6]
          repeat' (first | exact trivial | assumption | decide | apply And.intro | (intro hh; (try simp (disch := first | omega | (unfold In64; omega)) only [lLen_eq, lN_eq, lGet_eq, iNat_eq, lSet_eq, lApp_eq, lSub_eq, lRep_eq, List.length_set, List.length_append, List.length_cons, List.length_nil, List.length_replicate, List.length_take, List.length_drop, Int.toNat_natCast, Nat.mul_one, Nat.zero_add, iAdd_i64, iSub_i64, iMul_i64, iQuo_i64, iRem_nn, conv_i64, iLt_eq, iLe_eq, iGt_eq, iGe_eq, iEq_eq, iNe_eq, bNot_eq, bAnd_eq, bOr_eq, Bool.and_eq_true, Bool.or_eq_true, Bool.and_eq_false_iff, Bool.or_eq_false_iff, Bool.not_eq_true', Bool.not_eq_false', decide_eq_true_eq, decide_eq_false_iff_not, Bool.not_not] at hh)) | omega | (unfold roomy; simp (disch := first | omega | (unfold In64; omega)) only [lLen_eq, lN_eq, lGet_eq, iNat_eq, lSet_eq, lApp_eq, lSub_eq, lRep_eq, List.length_set, List.length_append, List.length_cons, List.length_nil, List.length_replicate, List.length_take, List.length_drop, Int.toNat_natCast, Nat.mul_one, Nat.zero_add, iAdd_i64, iSub_i64, iMul_i64, iQuo_i64, iRem_nn, conv_i64]; omega) | (simp (disch := first | omega | (unfold In64; omega)) only [lLen_eq, lN_eq, lGet_eq, iNat_eq, lSet_eq, lApp_eq, lSub_eq, lRep_eq, List.length_set, List.length_append, List.length_cons, List.length_nil, List.length_replicate, List.length_take, List.length_drop, Int.toNat_natCast, Nat.mul_one, Nat.zero_add, iAdd_i64, iSub_i64, iMul_i64, iQuo_i64, iRem_nn, conv_i64]; done) | (simp (disch := first | omega | (unfold In64; omega)) only [lLen_eq, lN_eq, lGet_eq, iNat_eq, lSet_eq, lApp_eq, lSub_eq, lRep_eq, List.length_set, List.length_append, List.length_cons, List.length_nil, List.length_replicate, List.length_take, List.length_drop, Int.toNat_natCast, Nat.mul_one, Nat.zero_add, iAdd_i64, iSub_i64, iMul_i64, iQuo_i64, iRem_nn, conv_i64]; omega))
        · simp only [lc_spec_BootBytes_1, iLt_eq, decide_eq_true_eq] at hcc
          have e4 : iAdd .i64 i 1 = i + 1 := iAdd_i64 (by unfold In64; omega)
          simp only [lf_spec_BootBytes_1, lSet_eq, bSel_eq, e4]
          refine ⟨⟨trivial, ?_, by omega, by omega⟩, by omega⟩
          split
          · rw [List.length_set]; exact h1
          · split
            · rw [List.length_set]; exact h1
            · exact h1) ⟨rfl, rfl, by simp, by simp⟩
    have r8 : roomy 8 := by unfold roomy; omega
    have e9 : ∀ {α : Type} (z : α), (lRep 8 z).length = 8 := fun z => by rw [lRep_eq, List.length_replicate]; rfl
    have e0 : iNat 0 < 8 := by rw [iNat_eq]; decide
    refine ⟨?_, ?_, rfl, ?_⟩
    · simp [hv, a1, bNot_eq, b1]
    · simp [hv, a2, bNot_eq, b2, a3, r8, e9, e0]
    · rw [bNot_eq]
      simp only [Bool.not_true, bSel_f]
      omega
theorem plain_FnExactBootBytes (x : Int × List Int) (hw : TuX.wf h_laws_FnExactBootBytes x) : ok_laws_FnExactBootBytes x ∧ v_laws_FnExactBootBytes x = true := by
  rw [oe_laws_FnExactBootBytes, ve_laws_FnExactBootBytes]
  obtain ⟨k1, k2⟩ := sz_Report x (wl_Report_of hw.2.1) 1048576 (by omega) (by omega)
  rcases k2 with k2 | ⟨k2, _, k3⟩
  · have e : iLt (v_laws_szReport (x, 1048576)) 0 = true := by rw [iLt_eq]; simpa using k2
    simp only [e]; simp [bOr_eq, k1]
  · have e : iLt (v_laws_szReport (x, 1048576)) 0 = false := by rw [iLt_eq]; simpa using k2
    obtain ⟨t1, t2⟩ := to_Report x k3
    obtain ⟨q1, q2⟩ := eqR x k3
    obtain ⟨r1, r2, r3, r4⟩ := bootBytes_two x k3.1
    have hsm : sm_ByteS (v_spec_BootBytes x) := by show _ ≤ 1048576; omega
    obtain ⟨b1, b2⟩ := eq_ByteS _ (v_spec_BootBytes x) hsm
    have b3 := b2.2 rfl
    obtain ⟨m1, ⟨m2, m3⟩, _, _⟩ := mh_Report x k3 1 (by omega) (by omega)
    obtain ⟨n1, ⟨n2, n3⟩, n4, n5⟩ := mh_ByteS _ hsm 1 (by omega) (by omega)
    have c1 : iLt (mg_laws_markReport x 1).2 0 = false := by rw [iLt_eq]; simp; omega
    have c2 : iLt (mg_laws_markByteS (v_spec_BootBytes x) 1).2 0 = false := by rw [iLt_eq]; simp; omega
    simp only [e, t2, r3, k1, t1, r1, r2, q1, q2, b1, b3, m1, n1, n4, n5, c1, c2]
    simp [bOr_eq, bAnd_eq, bNot_eq, bIff_eq, iNe_eq]
    exact m1
end Go.Ag
