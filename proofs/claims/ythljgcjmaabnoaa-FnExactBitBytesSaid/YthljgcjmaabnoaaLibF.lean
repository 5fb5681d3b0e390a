/-
  Part 6 of what the law FnExactBitBytes needs: an abstract semantics proved sound, the program's functions in its form, plain Lean about them. No conditions.
-/
import Derived.KernelRfl
import Derived.Test.YthljgcjmaabnoaaLibE
namespace Go.Ag
set_option linter.unusedSimpArgs false
set_option linter.unusedVariables false
section
set_option maxRecDepth 8000
noncomputable def dc_spec_IsReport : DCode :=
  (.seq [1] (.region [oa 0 1 (.boxB 0 2 (.t 0)),
 oa 1 2 (.mv (.c (.bool false)))])
  (.seq [1] (.seq [3, 1] (.region [oi 0 3 0])
  (.block 0 (.loop [1, 3] 1 (.seq [3, 1] (.seq [8, 3, 1] (.region [om 0 4 3,
 oa 1 5 (.fieldA 1 (.t 1)),
 oa 2 6 (.loadB 0 none (.t 5)),
 oa 3 7 (.len (.t 6)),
 oa 4 8 (.bin .lss (.t 4) (.t 7))])
  (.cond (.t 8) .skip (.exit 0)))
  (.seq [3, 1] (.block 1 (.seq [35, 3, 1] (.region [oa 0 11 (.fieldA 1 (.t 1)),
 xA 1 12 (.loadB 0 none (.t 11)) (rg 1),
 om 2 13 3,
 xA 3 14 (.indexA 1 (.t 12) (.t 13)) (rg 3),
 xA 4 15 (.loadH none (.t 14)) (rg 4),
 xC 5 16 s_spec_l1In p_spec_l1In D_spec_l1In [(.t 15), (.c (.int .i64 1)), (.c (.int .i64 56))] (rg 5),
 xA 6 17 (.un .not (.t 16)) (rg 6),
 xA 7 18 (.mv (.t 17)) (rg 7),
 ⟨8, some 19, .a false (.mv (.t 3)) none, (some (18, false)), [0, 1, 2, 3, 4, 5, 6, 7]⟩,
 ⟨9, some 20, .a false (.bin .gtr (.t 19) (.c (.int .i64 0))) none, (some (18, false)), [0, 1, 2, 3, 4, 5, 6, 7, 8]⟩,
 ⟨10, some 21, .a false (.mv (.t 20)) none, (some (18, false)), [0, 1, 2, 3, 4, 5, 6, 7, 8, 9]⟩,
 ⟨11, some 22, .a false (.fieldA 1 (.t 1)) none, (some (21, true)), [0, 1, 2, 3, 4, 5, 6, 7, 8, 9, 10]⟩,
 ⟨12, some 23, .a false (.loadB 0 none (.t 22)) none, (some (21, true)), [0, 1, 2, 3, 4, 5, 6, 7, 8, 9, 10, 11]⟩,
 ⟨13, some 24, .a false (.mv (.t 3)) none, (some (21, true)), [0, 1, 2, 3, 4, 5, 6, 7, 8, 9, 10]⟩,
 ⟨14, some 25, .a false (.bin .sub (.t 24) (.c (.int .i64 1))) none, (some (21, true)), [0, 1, 2, 3, 4, 5, 6, 7, 8, 9, 10, 13]⟩,
 ⟨15, some 26, .a false (.indexA 1 (.t 23) (.t 25)) none, (some (21, true)), [0, 1, 2, 3, 4, 5, 6, 7, 8, 9, 10, 11, 12, 13, 14]⟩,
 ⟨16, some 27, .a false (.loadH none (.t 26)) none, (some (21, true)), [0, 1, 2, 3, 4, 5, 6, 7, 8, 9, 10, 11, 12, 13, 14, 15]⟩,
 ⟨17, some 28, .a false (.fieldA 1 (.t 1)) none, (some (21, true)), [0, 1, 2, 3, 4, 5, 6, 7, 8, 9, 10]⟩,
 ⟨18, some 29, .a false (.loadB 0 none (.t 28)) none, (some (21, true)), [0, 1, 2, 3, 4, 5, 6, 7, 8, 9, 10, 17]⟩,
 ⟨19, some 30, .a false (.mv (.t 3)) none, (some (21, true)), [0, 1, 2, 3, 4, 5, 6, 7, 8, 9, 10]⟩,
 ⟨20, some 31, .a false (.indexA 1 (.t 29) (.t 30)) none, (some (21, true)), [0, 1, 2, 3, 4, 5, 6, 7, 8, 9, 10, 17, 18, 19]⟩,
 ⟨21, some 32, .a false (.loadH none (.t 31)) none, (some (21, true)), [0, 1, 2, 3, 4, 5, 6, 7, 8, 9, 10, 17, 18, 19, 20]⟩,
 ⟨22, some 33, .a false (.bin .geq (.t 27) (.t 32)) none, (some (21, true)), [0, 1, 2, 3, 4, 5, 6, 7, 8, 9, 10, 11, 12, 13, 14, 15, 16, 17, 18, 19, 20, 21]⟩,
 ⟨23, some 34, .a false (.pick (.t 21) (.t 33) (.c (.bool false))) none, (some (18, false)), [0, 1, 2, 3, 4, 5, 6, 7, 8, 9, 10, 11, 12, 13, 14, 15, 16, 17, 18, 19, 20, 21, 22]⟩,
 xA 24 35 (.pick (.t 18) (.c (.bool true)) (.t 34)) (rg 24)])
  (.cond (.t 35) (.seq [2] (.region [oa 0 2 (.mv (.c (.bool false)))])
  .ret) .skip)))
  (.region [om 0 9 3,
 oa 1 10 (.bin .add (.t 9) (.c (.int .i64 1))),
 om 2 3 10]))))))
  (.seq [2] (.region [oa 0 36 (.fieldA 0 (.t 1)),
 oa 1 37 (.loadB 0 none (.t 36)),
 oc 2 38 s_spec_l1In p_spec_l1In D_spec_l1In [(.t 37), (.c (.int .i64 0)), (.c (.int .i64 15))],
 om 3 2 38])
  .ret)))
noncomputable def df_spec_IsReport : DFun := ⟨1, 39, 1, true, [.tmp 2], dc_spec_IsReport⟩
noncomputable def pf_spec_IsReport : PFun := df_spec_IsReport.er
noncomputable def f_spec_IsReport : AFun := pf_spec_IsReport.er
@[irreducible] noncomputable def s_spec_IsReport : CallSem := funSem f_spec_IsReport
@[irreducible] noncomputable def p_spec_IsReport : PSem := pfunSem pf_spec_IsReport
theorem sp_spec_IsReport : SoundP s_spec_IsReport p_spec_IsReport := by unfold s_spec_IsReport p_spec_IsReport; exact pfun_sound (f := pf_spec_IsReport) ⟨sp_spec_l1In, sp_spec_l1In, trivial⟩
def h_spec_IsReport : List HT := [.agg [(.frz, .int .i64), (.frz, .sl (.one (.int .i64)))]]
def q_spec_IsReport : QT := .one (.one .own (.bool))
@[irreducible] noncomputable def v_spec_IsReport (x : Int × List (Int)) : Bool := fnV df_spec_IsReport h_spec_IsReport q_spec_IsReport x
@[irreducible] noncomputable def ok_spec_IsReport (x : Int × List (Int)) : Prop := fnOk df_spec_IsReport h_spec_IsReport q_spec_IsReport x
noncomputable def D_spec_IsReport : DSem := DSemOf h_spec_IsReport q_spec_IsReport ok_spec_IsReport v_spec_IsReport
theorem ck_spec_IsReport (x : Int × List (Int)) : fnChk df_spec_IsReport h_spec_IsReport q_spec_IsReport x = true := by kernel_rfl
theorem ob_spec_IsReport : AllD df_spec_IsReport.body.obs := ⟨sd_spec_l1In, sd_spec_l1In, trivial⟩
theorem st_spec_IsReport : fnSt df_spec_IsReport h_spec_IsReport q_spec_IsReport = true := by kernel_rfl
theorem sd_spec_IsReport : SoundD p_spec_IsReport D_spec_IsReport := by unfold p_spec_IsReport; exact soundD_of (f := df_spec_IsReport) (hs := h_spec_IsReport) (q := q_spec_IsReport) ob_spec_IsReport st_spec_IsReport ck_spec_IsReport (fun x h => by unfold ok_spec_IsReport at h; exact h) (fun x => by unfold v_spec_IsReport; rfl)
noncomputable def dc_spec_BitBytes : DCode :=
  (.seq [1] (.region [oa 0 1 (.boxB 0 2 (.t 0)),
 oa 1 2 (.mv (.c .nils))])
  (.seq [1] (.seq [8, 1] (.region [oa 0 6 (.loadB 0 (some 2) (.t 1)),
 oc 1 7 s_spec_IsReport p_spec_IsReport D_spec_IsReport [(.t 6)],
 oa 2 8 (.un .not (.t 7))])
  (.cond (.t 8) (.seq [2] (.region [⟨0, some 9, .a false (.litSlice 1 0 [] []) (some (.one (.int .u8))), none, []⟩,
 om 1 2 9])
  .ret) .skip))
  (.seq [3, 1] (.region [⟨0, some 10, .a false (.mkSlice 1 [(.int .u8 0)] (.c (.int .i64 8))) (some (.one (.int .u8))), none, []⟩,
 om 1 3 10])
  (.seq [3, 1] (.region [on 0 11 3,
 oa 1 12 (.fieldA 0 (.t 1)),
 oa 2 13 (.loadB 0 none (.t 12)),
 oa 3 14 (.conv .u8 (.t 13)),
 oa 4 15 (.indexA 1 (.t 11) (.c (.int .i64 0))),
 os 5 (.storeH 1 (.t 15) (.t 14))])
  (.seq [3] (.seq [4, 3, 1] (.region [oi 0 4 0])
  (.block 0 (.loop [1, 3, 4] 1 (.seq [4, 3, 1] (.seq [20, 4, 3, 1] (.region [om 0 16 4,
 oa 1 17 (.fieldA 1 (.t 1)),
 oa 2 18 (.loadB 0 none (.t 17)),
 oa 3 19 (.len (.t 18)),
 oa 4 20 (.bin .lss (.t 16) (.t 19))])
  (.cond (.t 20) .skip (.exit 0)))
  (.seq [4, 3, 1] (.block 1 (.seq [5, 4, 3, 1] (.region [oa 0 23 (.fieldA 1 (.t 1)),
 oa 1 24 (.loadB 0 none (.t 23)),
 om 2 25 4,
 oa 3 26 (.indexA 1 (.t 24) (.t 25)),
 oa 4 27 (.loadH none (.t 26)),
 oa 5 28 (.bin .sub (.t 27) (.c (.int .i64 1))),
 om 6 5 28])
  (.region [on 0 29 3,
 om 1 30 5,
 xA 2 31 (.bin .quo (.t 30) (.c (.int .i64 8))) [1],
 xA 3 32 (.bin .add (.c (.int .i64 1)) (.t 31)) [1, 2],
 on 4 33 3,
 om 5 34 5,
 xA 6 35 (.bin .quo (.t 34) (.c (.int .i64 8))) [5],
 xA 7 36 (.bin .add (.c (.int .i64 1)) (.t 35)) [5, 6],
 xA 8 37 (.indexA 1 (.t 33) (.t 36)) [4, 5, 6, 7],
 xA 9 38 (.loadH none (.t 37)) [4, 5, 6, 7, 8],
 om 10 39 5,
 xA 11 40 (.bin .rem (.t 39) (.c (.int .i64 8))) [10],
 xA 12 41 (.bin .shl (.c (.int .u8 1)) (.t 40)) [10, 11],
 xA 13 42 (.bin .or (.t 38) (.t 41)) [4, 5, 6, 7, 8, 9, 10, 11, 12],
 xA 14 43 (.indexA 1 (.t 29) (.t 32)) (rg 14),
 xS 15 (.storeH 1 (.t 43) (.t 42)) (rg 15)])))
  (.region [om 0 21 4,
 oa 1 22 (.bin .add (.t 21) (.c (.int .i64 1))),
 om 2 4 22]))))))
  (.seq [2] (.region [om 0 44 3,
 om 1 2 44])
  .ret))))))
noncomputable def df_spec_BitBytes : DFun := ⟨1, 45, 1, false, [.tmp 2], dc_spec_BitBytes⟩
noncomputable def pf_spec_BitBytes : PFun := df_spec_BitBytes.er
noncomputable def f_spec_BitBytes : AFun := pf_spec_BitBytes.er
@[irreducible] noncomputable def s_spec_BitBytes : CallSem := funSem f_spec_BitBytes
@[irreducible] noncomputable def p_spec_BitBytes : PSem := pfunSem pf_spec_BitBytes
theorem sp_spec_BitBytes : SoundP s_spec_BitBytes p_spec_BitBytes := by unfold s_spec_BitBytes p_spec_BitBytes; exact pfun_sound (f := pf_spec_BitBytes) ⟨sp_spec_IsReport, trivial⟩
def h_spec_BitBytes : List HT := [.agg [(.frz, .int .i64), (.frz, .sl (.one (.int .i64)))]]
def q_spec_BitBytes : QT := .one (.one .own (.sl (.one (.int .u8))))
@[irreducible] noncomputable def v_spec_BitBytes (x : Int × List (Int)) : List (Int) := fnV df_spec_BitBytes h_spec_BitBytes q_spec_BitBytes x
@[irreducible] noncomputable def ok_spec_BitBytes (x : Int × List (Int)) : Prop := fnOk df_spec_BitBytes h_spec_BitBytes q_spec_BitBytes x
noncomputable def D_spec_BitBytes : DSem := DSemOf h_spec_BitBytes q_spec_BitBytes ok_spec_BitBytes v_spec_BitBytes
theorem ck_spec_BitBytes (x : Int × List (Int)) : fnChk df_spec_BitBytes h_spec_BitBytes q_spec_BitBytes x = true := by kernel_rfl
theorem ob_spec_BitBytes : AllD df_spec_BitBytes.body.obs := ⟨sd_spec_IsReport, trivial⟩
theorem st_spec_BitBytes : fnSt df_spec_BitBytes h_spec_BitBytes q_spec_BitBytes = true := by kernel_rfl
theorem sd_spec_BitBytes : SoundD p_spec_BitBytes D_spec_BitBytes := by unfold p_spec_BitBytes; exact soundD_of (f := df_spec_BitBytes) (hs := h_spec_BitBytes) (q := q_spec_BitBytes) ob_spec_BitBytes st_spec_BitBytes ck_spec_BitBytes (fun x h => by unfold ok_spec_BitBytes at h; exact h) (fun x => by unfold v_spec_BitBytes; rfl)
noncomputable def dc_impl_IsReport : DCode :=
  (.seq [1] (.region [oa 0 1 (.boxB 0 2 (.t 0)),
 oa 1 2 (.mv (.c (.bool false)))])
  (.seq [1] (.seq [12, 1] (.region [oa 0 5 (.fieldA 0 (.t 1)),
 oa 1 6 (.loadB 0 none (.t 5)),
 oa 2 7 (.bin .lss (.t 6) (.c (.int .i64 0))),
 om 3 8 7,
 og 4 9 (.fieldA 0 (.t 1)) 8 false,
 og 5 10 (.loadB 0 none (.t 9)) 8 false,
 og 6 11 (.bin .gtr (.t 10) (.c (.int .i64 15))) 8 false,
 oa 7 12 (.pick (.t 8) (.c (.bool true)) (.t 11))])
  (.cond (.t 12) (.seq [2] (.region [oa 0 2 (.mv (.c (.bool false)))])
  .ret) .skip))
  (.seq [] (.seq [16, 15, 14, 1] (.region [oa 0 13 (.fieldA 1 (.t 1)),
 oa 1 14 (.loadB 0 none (.t 13)),
 oa 2 15 (.len (.t 14)),
 oi 3 16 0])
  (.block 0 (.loop [1, 14, 15, 16] 1 (.seq [17, 16, 15, 14, 1] (.region [oa 0 17 (.bin .lss (.t 16) (.t 15))])
  (.seq [16, 15, 14, 1] (.cond (.t 17) .skip (.exit 0))
  (.seq [16, 15, 14, 1] (.block 1 (.seq [16, 15, 14, 4, 3, 1] (.region [om 0 18 16,
 oa 1 19 (.indexA 1 (.t 14) (.t 16)),
 oa 2 20 (.loadH none (.t 19)),
 om 3 3 18,
 om 4 4 20])
  (.seq [37, 16, 15, 14, 1] (.region [om 0 21 4,
 oc 1 22 s_impl_isCode p_impl_isCode D_impl_isCode [(.t 21)],
 oa 2 23 (.un .not (.t 22)),
 om 3 24 23,
 og 4 25 (.mv (.t 3)) 24 false,
 og 5 26 (.bin .gtr (.t 25) (.c (.int .i64 0))) 24 false,
 og 6 27 (.mv (.t 26)) 24 false,
 og 7 28 (.fieldA 1 (.t 1)) 27 true,
 og 8 29 (.loadB 0 none (.t 28)) 27 true,
 og 9 30 (.mv (.t 3)) 27 true,
 og 10 31 (.bin .sub (.t 30) (.c (.int .i64 1))) 27 true,
 og 11 32 (.indexA 1 (.t 29) (.t 31)) 27 true,
 og 12 33 (.loadH none (.t 32)) 27 true,
 og 13 34 (.mv (.t 4)) 27 true,
 og 14 35 (.bin .geq (.t 33) (.t 34)) 27 true,
 og 15 36 (.pick (.t 27) (.t 35) (.c (.bool false))) 24 false,
 oa 16 37 (.pick (.t 24) (.c (.bool true)) (.t 36))])
  (.cond (.t 37) (.seq [2] (.region [oa 0 2 (.mv (.c (.bool false)))])
  .ret) .skip))))
  (.region [oa 0 38 (.bin .add (.t 16) (.c (.int .i64 1))),
 om 1 16 38])))))))
  (.seq [2] (.region [oa 0 2 (.mv (.c (.bool true)))])
  .ret))))
noncomputable def df_impl_IsReport : DFun := ⟨1, 39, 1, true, [.tmp 2], dc_impl_IsReport⟩
noncomputable def pf_impl_IsReport : PFun := df_impl_IsReport.er
noncomputable def f_impl_IsReport : AFun := pf_impl_IsReport.er
@[irreducible] noncomputable def s_impl_IsReport : CallSem := funSem f_impl_IsReport
@[irreducible] noncomputable def p_impl_IsReport : PSem := pfunSem pf_impl_IsReport
theorem sp_impl_IsReport : SoundP s_impl_IsReport p_impl_IsReport := by unfold s_impl_IsReport p_impl_IsReport; exact pfun_sound (f := pf_impl_IsReport) ⟨sp_impl_isCode, trivial⟩
def h_impl_IsReport : List HT := [.agg [(.frz, .int .i64), (.frz, .sl (.one (.int .i64)))]]
def q_impl_IsReport : QT := .one (.one .own (.bool))
@[irreducible] noncomputable def v_impl_IsReport (x : Int × List (Int)) : Bool := fnV df_impl_IsReport h_impl_IsReport q_impl_IsReport x
@[irreducible] noncomputable def ok_impl_IsReport (x : Int × List (Int)) : Prop := fnOk df_impl_IsReport h_impl_IsReport q_impl_IsReport x
noncomputable def D_impl_IsReport : DSem := DSemOf h_impl_IsReport q_impl_IsReport ok_impl_IsReport v_impl_IsReport
theorem ck_impl_IsReport (x : Int × List (Int)) : fnChk df_impl_IsReport h_impl_IsReport q_impl_IsReport x = true := by kernel_rfl
theorem ob_impl_IsReport : AllD df_impl_IsReport.body.obs := ⟨sd_impl_isCode, trivial⟩
theorem st_impl_IsReport : fnSt df_impl_IsReport h_impl_IsReport q_impl_IsReport = true := by kernel_rfl
theorem sd_impl_IsReport : SoundD p_impl_IsReport D_impl_IsReport := by unfold p_impl_IsReport; exact soundD_of (f := df_impl_IsReport) (hs := h_impl_IsReport) (q := q_impl_IsReport) ob_impl_IsReport st_impl_IsReport ck_impl_IsReport (fun x h => by unfold ok_impl_IsReport at h; exact h) (fun x => by unfold v_impl_IsReport; rfl)
noncomputable def dc_impl_BitBytes : DCode :=
  (.seq [1] (.region [oa 0 1 (.boxB 0 2 (.t 0)),
 oa 1 2 (.mv (.c .nils))])
  (.seq [1] (.seq [8, 1] (.region [oa 0 6 (.loadB 0 (some 2) (.t 1)),
 oc 1 7 s_impl_IsReport p_impl_IsReport D_impl_IsReport [(.t 6)],
 oa 2 8 (.un .not (.t 7))])
  (.cond (.t 8) (.seq [2] (.region [oa 0 2 (.mv (.c .nils))])
  .ret) .skip))
  (.seq [3, 1] (.region [⟨0, some 9, .a false (.mkSlice 1 [(.int .u8 0)] (.c (.int .i64 8))) (some (.one (.int .u8))), none, []⟩,
 om 1 3 9])
  (.seq [3, 1] (.region [on 0 10 3,
 oa 1 11 (.fieldA 0 (.t 1)),
 oa 2 12 (.loadB 0 none (.t 11)),
 oa 3 13 (.conv .u8 (.t 12)),
 oa 4 14 (.indexA 1 (.t 10) (.c (.int .i64 0))),
 os 5 (.storeH 1 (.t 14) (.t 13))])
  (.seq [3] (.seq [18, 17, 16, 3] (.region [oa 0 15 (.fieldA 1 (.t 1)),
 oa 1 16 (.loadB 0 none (.t 15)),
 oa 2 17 (.len (.t 16)),
 oi 3 18 0])
  (.block 0 (.loop [3, 16, 17, 18] 1 (.seq [19, 18, 17, 16, 3] (.region [oa 0 19 (.bin .lss (.t 18) (.t 17))])
  (.seq [18, 17, 16, 3] (.cond (.t 19) .skip (.exit 0))
  (.seq [18, 17, 16, 3] (.block 1 (.seq [18, 17, 16, 5, 3] (.region [oa 0 20 (.indexA 1 (.t 16) (.t 18)),
 oa 1 21 (.loadH none (.t 20)),
 om 2 5 21])
  (.region [on 0 22 3,
 om 1 23 5,
 xA 2 24 (.bin .sub (.t 23) (.c (.int .i64 1))) [1],
 xA 3 25 (.bin .quo (.t 24) (.c (.int .i64 8))) [1, 2],
 xA 4 26 (.bin .add (.c (.int .i64 1)) (.t 25)) [1, 2, 3],
 xA 5 27 (.indexA 1 (.t 22) (.t 26)) (rg 5),
 xA 6 28 (.loadH none (.t 27)) (rg 6),
 om 7 29 5,
 xA 8 30 (.bin .sub (.t 29) (.c (.int .i64 1))) [7],
 xA 9 31 (.bin .rem (.t 30) (.c (.int .i64 8))) [7, 8],
 xA 10 32 (.bin .shl (.c (.int .u8 1)) (.t 31)) [7, 8, 9],
 xA 11 33 (.bin .or (.t 28) (.t 32)) (rg 11),
 xA 12 34 (.indexA 1 (.t 22) (.t 26)) (rg 12),
 xS 13 (.storeH 1 (.t 34) (.t 33)) (rg 13)])))
  (.region [oa 0 35 (.bin .add (.t 18) (.c (.int .i64 1))),
 om 1 18 35])))))))
  (.seq [2] (.region [om 0 36 3,
 om 1 2 36])
  .ret))))))
noncomputable def df_impl_BitBytes : DFun := ⟨1, 37, 1, false, [.tmp 2], dc_impl_BitBytes⟩
noncomputable def pf_impl_BitBytes : PFun := df_impl_BitBytes.er
noncomputable def f_impl_BitBytes : AFun := pf_impl_BitBytes.er
@[irreducible] noncomputable def s_impl_BitBytes : CallSem := funSem f_impl_BitBytes
@[irreducible] noncomputable def p_impl_BitBytes : PSem := pfunSem pf_impl_BitBytes
theorem sp_impl_BitBytes : SoundP s_impl_BitBytes p_impl_BitBytes := by unfold s_impl_BitBytes p_impl_BitBytes; exact pfun_sound (f := pf_impl_BitBytes) ⟨sp_impl_IsReport, trivial⟩
def h_impl_BitBytes : List HT := [.agg [(.frz, .int .i64), (.frz, .sl (.one (.int .i64)))]]
def q_impl_BitBytes : QT := .one (.one .own (.sl (.one (.int .u8))))
@[irreducible] noncomputable def v_impl_BitBytes (x : Int × List (Int)) : List (Int) := fnV df_impl_BitBytes h_impl_BitBytes q_impl_BitBytes x
@[irreducible] noncomputable def ok_impl_BitBytes (x : Int × List (Int)) : Prop := fnOk df_impl_BitBytes h_impl_BitBytes q_impl_BitBytes x
noncomputable def D_impl_BitBytes : DSem := DSemOf h_impl_BitBytes q_impl_BitBytes ok_impl_BitBytes v_impl_BitBytes
theorem ck_impl_BitBytes (x : Int × List (Int)) : fnChk df_impl_BitBytes h_impl_BitBytes q_impl_BitBytes x = true := by kernel_rfl
theorem ob_impl_BitBytes : AllD df_impl_BitBytes.body.obs := ⟨sd_impl_IsReport, trivial⟩
theorem st_impl_BitBytes : fnSt df_impl_BitBytes h_impl_BitBytes q_impl_BitBytes = true := by kernel_rfl
theorem sd_impl_BitBytes : SoundD p_impl_BitBytes D_impl_BitBytes := by unfold p_impl_BitBytes; exact soundD_of (f := df_impl_BitBytes) (hs := h_impl_BitBytes) (q := q_impl_BitBytes) ob_impl_BitBytes st_impl_BitBytes ck_impl_BitBytes (fun x h => by unfold ok_impl_BitBytes at h; exact h) (fun x => by unfold v_impl_BitBytes; rfl)
noncomputable def dc_laws_FnExactBitBytes : DCode :=
  (.seq [1] (.region [oa 0 1 (.boxB 0 2 (.t 0)),
 oa 1 2 (.mv (.c (.bool false)))])
  (.seq [3, 1] (.region [oi 0 3 1048576])
  (.seq [3, 1] (.region [oa 0 11 (.loadB 0 (some 2) (.t 1)),
 om 1 12 3,
 oc 2 13 s_laws_szReport p_laws_szReport D_laws_szReport [(.t 11), (.t 12)],
 om 3 3 13])
  (.seq [1] (.seq [15, 1] (.region [om 0 14 3,
 oa 1 15 (.bin .lss (.t 14) (.c (.int .i64 0)))])
  (.cond (.t 15) (.seq [2] (.region [oa 0 2 (.mv (.c (.bool true)))])
  .ret) .skip))
  (.seq [4, 1] (.region [oa 0 16 (.loadB 0 (some 2) (.t 1)),
 oc 1 17 s_laws_toReport p_laws_toReport D_laws_toReport [(.t 16)],
 oc 2 18 s_spec_BitBytes p_spec_BitBytes D_spec_BitBytes [(.t 17)],
 on 3 4 18])
  (.seq [5, 4, 1] (.region [oa 0 19 (.loadB 0 (some 2) (.t 1)),
 oc 1 20 s_laws_toReport p_laws_toReport D_laws_toReport [(.t 19)],
 oa 2 5 (.allocB 1 [(.int .i64 0), .nils]),
 os 3 (.storeB 1 2 (.t 5) (.t 20))])
  (.seq [6, 5, 4, 1] (.region [oa 0 21 (.loadB 1 (some 2) (.t 5)),
 oc 1 22 s_impl_BitBytes p_impl_BitBytes D_impl_BitBytes [(.t 21)],
 om 2 6 22])
  (.seq [6, 5, 4, 1] (.seq [26, 6, 5, 4, 1] (.region [on 0 23 6,
 on 1 24 4,
 oc 2 25 s_laws_eqByteS p_laws_eqByteS D_laws_eqByteS [(.t 23), (.t 24)],
 oa 3 26 (.un .not (.t 25))])
  (.cond (.t 26) (.seq [2] (.region [oa 0 2 (.mv (.c (.bool false)))])
  .ret) .skip))
  (.seq [6, 5, 4, 1] (.seq [31, 6, 5, 4, 1] (.region [oa 0 27 (.loadB 1 (some 2) (.t 5)),
 oa 1 28 (.loadB 0 (some 2) (.t 1)),
 xC 2 29 s_laws_toReport p_laws_toReport D_laws_toReport [(.t 28)] [1],
 xC 3 30 s_laws_eqReport p_laws_eqReport D_laws_eqReport [(.t 27), (.t 29)] (rg 3),
 xA 4 31 (.un .not (.t 30)) (rg 4)])
  (.cond (.t 31) (.seq [2] (.region [oa 0 2 (.mv (.c (.bool false)))])
  .ret) .skip))
  (.seq [7, 6, 5, 4, 1] (.region [oi 0 7 1])
  (.seq [7, 6, 4, 1] (.region [oa 0 32 (.loadB 1 (some 2) (.t 5)),
 om 1 33 7,
 ⟨2, some 34, .mark s_laws_markReport M_laws_markReport (.t 32) (.t 33), none, []⟩,
 om 3 7 34])
  (.seq [6, 4, 1] (.seq [42, 6, 4, 1] (.region [om 0 35 7,
 oa 1 36 (.bin .lss (.t 35) (.c (.int .i64 0))),
 om 2 37 36,
 ⟨3, some 38, .a true (.mv (.t 6)) none, (some (37, false)), []⟩,
 ⟨4, some 39, .a true (.mv (.t 4)) none, (some (37, false)), []⟩,
 ⟨5, some 40, .call false s_laws_eqByteS p_laws_eqByteS D_laws_eqByteS [(.t 38), (.t 39)], (some (37, false)), []⟩,
 og 6 41 (.un .not (.t 40)) 37 false,
 oa 7 42 (.pick (.t 37) (.c (.bool true)) (.t 41))])
  (.cond (.t 42) (.seq [2] (.region [oa 0 2 (.mv (.c (.bool false)))])
  .ret) .skip))
  (.seq [8, 6, 4, 1] (.region [oi 0 8 1])
  (.seq [8, 6, 4, 1] (.region [on 0 43 6,
 om 1 44 8,
 ⟨2, some 45, .mark s_laws_markByteS M_laws_markByteS (.t 43) (.t 44), none, []⟩,
 om 3 8 45])
  (.seq [9, 8, 6, 4, 1] (.region [oi 0 9 1])
  (.seq [9, 8, 6, 4, 1] (.region [on 0 46 6,
 om 1 47 9,
 oc 2 48 s_laws_heldByteS p_laws_heldByteS D_laws_heldByteS [(.t 46), (.t 47)],
 om 3 9 48])
  (.seq [9, 8, 6, 4, 1] (.seq [50, 9, 8, 6, 4, 1] (.region [om 0 49 9,
 oa 1 50 (.bin .lss (.t 49) (.c (.int .i64 0)))])
  (.cond (.t 50) (.seq [2] (.region [oa 0 2 (.mv (.c (.bool false)))])
  .ret) .skip))
  (.seq [8, 6, 4, 1] (.seq [53, 8, 6, 4, 1] (.region [om 0 51 9,
 om 1 52 8,
 oa 2 53 (.bin .neq (.t 51) (.t 52))])
  (.cond (.t 53) (.seq [2] (.region [oa 0 2 (.mv (.c (.bool false)))])
  .ret) .skip))
  (.seq [10, 8, 6, 4] (.region [oa 0 54 (.loadB 0 (some 2) (.t 1)),
 oc 1 55 s_laws_toReport p_laws_toReport D_laws_toReport [(.t 54)],
 oc 2 56 s_impl_BitBytes p_impl_BitBytes D_impl_BitBytes [(.t 55)],
 on 3 10 56])
  (.seq [8, 6] (.seq [60, 8, 6] (.region [on 0 57 10,
 on 1 58 4,
 oc 2 59 s_laws_eqByteS p_laws_eqByteS D_laws_eqByteS [(.t 57), (.t 58)],
 oa 3 60 (.un .not (.t 59))])
  (.cond (.t 60) (.seq [2] (.region [oa 0 2 (.mv (.c (.bool false)))])
  .ret) .skip))
  (.seq [9, 8, 6] (.region [oi 0 9 1])
  (.seq [9, 8] (.region [on 0 61 6,
 om 1 62 9,
 oc 2 63 s_laws_heldByteS p_laws_heldByteS D_laws_heldByteS [(.t 61), (.t 62)],
 om 3 9 63])
  (.seq [9, 8] (.seq [65, 9, 8] (.region [om 0 64 9,
 oa 1 65 (.bin .lss (.t 64) (.c (.int .i64 0)))])
  (.cond (.t 65) (.seq [2] (.region [oa 0 2 (.mv (.c (.bool false)))])
  .ret) .skip))
  (.seq [] (.seq [68] (.region [om 0 66 9,
 om 1 67 8,
 oa 2 68 (.bin .neq (.t 66) (.t 67))])
  (.cond (.t 68) (.seq [2] (.region [oa 0 2 (.mv (.c (.bool false)))])
  .ret) .skip))
  (.seq [2] (.region [oa 0 2 (.mv (.c (.bool true)))])
  .ret)))))))))))))))))))))))))
noncomputable def df_laws_FnExactBitBytes : DFun := ⟨1, 69, 2, true, [.tmp 2], dc_laws_FnExactBitBytes⟩
noncomputable def pf_laws_FnExactBitBytes : PFun := df_laws_FnExactBitBytes.er
noncomputable def f_laws_FnExactBitBytes : AFun := pf_laws_FnExactBitBytes.er
@[irreducible] noncomputable def s_laws_FnExactBitBytes : CallSem := funSem f_laws_FnExactBitBytes
@[irreducible] noncomputable def p_laws_FnExactBitBytes : PSem := pfunSem pf_laws_FnExactBitBytes
theorem sp_laws_FnExactBitBytes : SoundP s_laws_FnExactBitBytes p_laws_FnExactBitBytes := by unfold s_laws_FnExactBitBytes p_laws_FnExactBitBytes; exact pfun_sound (f := pf_laws_FnExactBitBytes) ⟨sp_laws_szReport, sp_laws_toReport, sp_spec_BitBytes, sp_laws_toReport, sp_impl_BitBytes, sp_laws_eqByteS, sp_laws_toReport, sp_laws_eqReport, smk_laws_markReport, sp_laws_eqByteS, smk_laws_markByteS, sp_laws_heldByteS, sp_laws_toReport, sp_impl_BitBytes, sp_laws_eqByteS, sp_laws_heldByteS, trivial⟩
def h_laws_FnExactBitBytes : List HT := [.agg [(.frz, .int .i64), (.frz, .sl (.one (.int .i64)))]]
def q_laws_FnExactBitBytes : QT := .one (.one .own (.bool))
@[irreducible] noncomputable def v_laws_FnExactBitBytes (x : Int × List (Int)) : Bool := fnV df_laws_FnExactBitBytes h_laws_FnExactBitBytes q_laws_FnExactBitBytes x
@[irreducible] noncomputable def ok_laws_FnExactBitBytes (x : Int × List (Int)) : Prop := fnOk df_laws_FnExactBitBytes h_laws_FnExactBitBytes q_laws_FnExactBitBytes x
theorem ck_laws_FnExactBitBytes (x : Int × List (Int)) : fnChk df_laws_FnExactBitBytes h_laws_FnExactBitBytes q_laws_FnExactBitBytes x = true := by kernel_rfl
theorem ob_laws_FnExactBitBytes : AllD df_laws_FnExactBitBytes.body.obs := ⟨sd_laws_szReport, sd_laws_toReport, sd_spec_BitBytes, sd_laws_toReport, sd_impl_BitBytes, sd_laws_eqByteS, sd_laws_toReport, sd_laws_eqReport, sd_laws_eqByteS, sd_laws_heldByteS, sd_laws_toReport, sd_impl_BitBytes, sd_laws_eqByteS, sd_laws_heldByteS, trivial⟩
theorem st_laws_FnExactBitBytes : fnSt df_laws_FnExactBitBytes h_laws_FnExactBitBytes q_laws_FnExactBitBytes = true := by kernel_rfl
end
section
set_option maxRecDepth 100000
noncomputable def lc_spec_IsReport_1 (x : Int × List (Int)) (x0 : Int) : Bool := (bAnd (iLt x0 (lLen x.2)) (bNot (bOr (bNot (v_spec_l1In ((lGet x.2 (iNat x0) 0), 1, 56))) (bAnd (iGt x0 0) (iGe (lGet x.2 (iNat (iSub Go.IntKind.i64 x0 1)) 0) (lGet x.2 (iNat x0) 0))))))
noncomputable def lf_spec_IsReport_1 (x0 : Int) : Int := (iAdd Go.IntKind.i64 x0 1)
noncomputable def lp_spec_IsReport_1 (x : Int × List (Int)) (x0 : Int) : Prop := (((iLt x0 (lLen x.2)) = true → ((((0 : Int) ≤ x0) ∧ (x0 < (((List.length x.2) : Int)))) ∧ (((iNat x0) < (List.length x.2)) ∧ ((ok_spec_l1In ((lGet x.2 (iNat x0) 0), 1, 56)) ∧ (((bNot (v_spec_l1In ((lGet x.2 (iNat x0) 0), 1, 56))) = true → True) ∧ ((bNot (v_spec_l1In ((lGet x.2 (iNat x0) 0), 1, 56))) = false → (((iGt x0 0) = true → ((((0 : Int) ≤ (iSub Go.IntKind.i64 x0 1)) ∧ ((iSub Go.IntKind.i64 x0 1) < (((List.length x.2) : Int)))) ∧ (((iNat (iSub Go.IntKind.i64 x0 1)) < (List.length x.2)) ∧ ((((0 : Int) ≤ x0) ∧ (x0 < (((List.length x.2) : Int)))) ∧ ((iNat x0) < (List.length x.2)))))) ∧ ((iGt x0 0) = false → True)))))))) ∧ ((iLt x0 (lLen x.2)) = false → True))
theorem ve_spec_IsReport (x : Int × List (Int)) : v_spec_IsReport x = (bAnd (bNot (iLt (loopV (lc_spec_IsReport_1 x) lf_spec_IsReport_1 0) (lLen x.2))) (v_spec_l1In (x.1, 0, 15))) := by kernel_rfl
theorem oe_spec_IsReport (x : Int × List (Int)) : ok_spec_IsReport x = ((LoopOk (lc_spec_IsReport_1 x) lf_spec_IsReport_1 (lp_spec_IsReport_1 x) 0) ∧ (((iLt (loopV (lc_spec_IsReport_1 x) lf_spec_IsReport_1 0) (lLen x.2)) = true → True) ∧ ((iLt (loopV (lc_spec_IsReport_1 x) lf_spec_IsReport_1 0) (lLen x.2)) = false → (ok_spec_l1In (x.1, 0, 15))))) := by kernel_rfl
noncomputable def lc_spec_BitBytes_1 (x : Int × List (Int)) (x0 : ((List Int) × Int)) : Bool := (iLt x0.2 (lLen x.2))
noncomputable def lf_spec_BitBytes_1 (x : Int × List (Int)) (x0 : ((List Int) × Int)) : ((List Int) × Int) := ((lSet x0.1 (iNat (iAdd Go.IntKind.i64 1 (iQuo Go.IntKind.i64 (iSub Go.IntKind.i64 (lGet x.2 (iNat x0.2) 0) 1) 8))) (iOr Go.IntKind.u8 (lGet x0.1 (iNat (iAdd Go.IntKind.i64 1 (iQuo Go.IntKind.i64 (iSub Go.IntKind.i64 (lGet x.2 (iNat x0.2) 0) 1) 8))) 0) (iShl Go.IntKind.u8 1 (iRem (iSub Go.IntKind.i64 (lGet x.2 (iNat x0.2) 0) 1) 8)))), (iAdd Go.IntKind.i64 x0.2 1))
noncomputable def lp_spec_BitBytes_1 (x : Int × List (Int)) (x0 : ((List Int) × Int)) : Prop := (((iLt x0.2 (lLen x.2)) = true → ((((0 : Int) ≤ x0.2) ∧ (x0.2 < (((List.length x.2) : Int)))) ∧ (((iNat x0.2) < (List.length x.2)) ∧ (((8 : Int) ≠ 0) ∧ (((8 : Int) ≠ 0) ∧ ((((0 : Int) ≤ (iAdd Go.IntKind.i64 1 (iQuo Go.IntKind.i64 (iSub Go.IntKind.i64 (lGet x.2 (iNat x0.2) 0) 1) 8))) ∧ ((iAdd Go.IntKind.i64 1 (iQuo Go.IntKind.i64 (iSub Go.IntKind.i64 (lGet x.2 (iNat x0.2) 0) 1) 8)) < (((List.length x0.1) : Int)))) ∧ (((iNat (iAdd Go.IntKind.i64 1 (iQuo Go.IntKind.i64 (iSub Go.IntKind.i64 (lGet x.2 (iNat x0.2) 0) 1) 8))) < (List.length x0.1)) ∧ (((8 : Int) ≠ 0) ∧ (((0 : Int) ≤ (iRem (iSub Go.IntKind.i64 (lGet x.2 (iNat x0.2) 0) 1) 8)) ∧ ((((0 : Int) ≤ (iAdd Go.IntKind.i64 1 (iQuo Go.IntKind.i64 (iSub Go.IntKind.i64 (lGet x.2 (iNat x0.2) 0) 1) 8))) ∧ ((iAdd Go.IntKind.i64 1 (iQuo Go.IntKind.i64 (iSub Go.IntKind.i64 (lGet x.2 (iNat x0.2) 0) 1) 8)) < (((List.length x0.1) : Int)))) ∧ ((iNat (iAdd Go.IntKind.i64 1 (iQuo Go.IntKind.i64 (iSub Go.IntKind.i64 (lGet x.2 (iNat x0.2) 0) 1) 8))) < (List.length x0.1)))))))))))) ∧ ((iLt x0.2 (lLen x.2)) = false → True))
theorem ve_spec_BitBytes (x : Int × List (Int)) : v_spec_BitBytes x = (bSel (bNot (v_spec_IsReport (x.1, x.2))) [] (loopV (lc_spec_BitBytes_1 x) (lf_spec_BitBytes_1 x) ((lSet (lRep 8 0) (iNat 0) (iConv Go.IntKind.u8 x.1)), 0)).1) := by kernel_rfl
theorem oe_spec_BitBytes (x : Int × List (Int)) : ok_spec_BitBytes x = ((ok_spec_IsReport (x.1, x.2)) ∧ (((bNot (v_spec_IsReport (x.1, x.2))) = true → True) ∧ ((bNot (v_spec_IsReport (x.1, x.2))) = false → ((((0 : Int) ≤ 8) ∧ (roomy 8)) ∧ ((((0 : Int) ≤ 0) ∧ ((0 : Int) < (((List.length (lRep 8 0)) : Int)))) ∧ (((iNat 0) < (List.length (lRep 8 0))) ∧ (LoopOk (lc_spec_BitBytes_1 x) (lf_spec_BitBytes_1 x) (lp_spec_BitBytes_1 x) ((lSet (lRep 8 0) (iNat 0) (iConv Go.IntKind.u8 x.1)), 0)))))))) := by kernel_rfl
noncomputable def lc_impl_IsReport_1 (x : Int × List (Int)) (x0 : Int) : Bool := (bAnd (iLt x0 (lLen x.2)) (bNot (bOr (bNot (v_impl_isCode (lGet x.2 (iNat x0) 0))) (bAnd (iGt x0 0) (iGe (lGet x.2 (iNat (iSub Go.IntKind.i64 x0 1)) 0) (lGet x.2 (iNat x0) 0))))))
noncomputable def lf_impl_IsReport_1 (x0 : Int) : Int := (iAdd Go.IntKind.i64 x0 1)
noncomputable def lp_impl_IsReport_1 (x : Int × List (Int)) (x0 : Int) : Prop := (((iLt x0 (lLen x.2)) = true → ((((0 : Int) ≤ x0) ∧ (x0 < (((List.length x.2) : Int)))) ∧ (((iNat x0) < (List.length x.2)) ∧ ((ok_impl_isCode (lGet x.2 (iNat x0) 0)) ∧ (((bNot (v_impl_isCode (lGet x.2 (iNat x0) 0))) = true → True) ∧ ((bNot (v_impl_isCode (lGet x.2 (iNat x0) 0))) = false → (((iGt x0 0) = true → ((((0 : Int) ≤ (iSub Go.IntKind.i64 x0 1)) ∧ ((iSub Go.IntKind.i64 x0 1) < (((List.length x.2) : Int)))) ∧ ((iNat (iSub Go.IntKind.i64 x0 1)) < (List.length x.2)))) ∧ ((iGt x0 0) = false → True)))))))) ∧ ((iLt x0 (lLen x.2)) = false → True))
theorem ve_impl_IsReport (x : Int × List (Int)) : v_impl_IsReport x = (bAnd (bNot (bOr (iLt x.1 0) (iGt x.1 15))) (bNot (iLt (loopV (lc_impl_IsReport_1 x) lf_impl_IsReport_1 0) (lLen x.2)))) := by kernel_rfl
theorem oe_impl_IsReport (x : Int × List (Int)) : ok_impl_IsReport x = (((bOr (iLt x.1 0) (iGt x.1 15)) = true → True) ∧ ((bOr (iLt x.1 0) (iGt x.1 15)) = false → (LoopOk (lc_impl_IsReport_1 x) lf_impl_IsReport_1 (lp_impl_IsReport_1 x) 0))) := by kernel_rfl
noncomputable def lc_impl_BitBytes_1 (x : Int × List (Int)) (x0 : ((List Int) × Int)) : Bool := (iLt x0.2 (lLen x.2))
noncomputable def lf_impl_BitBytes_1 (x : Int × List (Int)) (x0 : ((List Int) × Int)) : ((List Int) × Int) := ((lSet x0.1 (iNat (iAdd Go.IntKind.i64 1 (iQuo Go.IntKind.i64 (iSub Go.IntKind.i64 (lGet x.2 (iNat x0.2) 0) 1) 8))) (iOr Go.IntKind.u8 (lGet x0.1 (iNat (iAdd Go.IntKind.i64 1 (iQuo Go.IntKind.i64 (iSub Go.IntKind.i64 (lGet x.2 (iNat x0.2) 0) 1) 8))) 0) (iShl Go.IntKind.u8 1 (iRem (iSub Go.IntKind.i64 (lGet x.2 (iNat x0.2) 0) 1) 8)))), (iAdd Go.IntKind.i64 x0.2 1))
noncomputable def lp_impl_BitBytes_1 (x : Int × List (Int)) (x0 : ((List Int) × Int)) : Prop := (((iLt x0.2 (lLen x.2)) = true → ((((0 : Int) ≤ x0.2) ∧ (x0.2 < (((List.length x.2) : Int)))) ∧ (((iNat x0.2) < (List.length x.2)) ∧ (((8 : Int) ≠ 0) ∧ ((((0 : Int) ≤ (iAdd Go.IntKind.i64 1 (iQuo Go.IntKind.i64 (iSub Go.IntKind.i64 (lGet x.2 (iNat x0.2) 0) 1) 8))) ∧ ((iAdd Go.IntKind.i64 1 (iQuo Go.IntKind.i64 (iSub Go.IntKind.i64 (lGet x.2 (iNat x0.2) 0) 1) 8)) < (((List.length x0.1) : Int)))) ∧ (((iNat (iAdd Go.IntKind.i64 1 (iQuo Go.IntKind.i64 (iSub Go.IntKind.i64 (lGet x.2 (iNat x0.2) 0) 1) 8))) < (List.length x0.1)) ∧ (((8 : Int) ≠ 0) ∧ (((0 : Int) ≤ (iRem (iSub Go.IntKind.i64 (lGet x.2 (iNat x0.2) 0) 1) 8)) ∧ ((((0 : Int) ≤ (iAdd Go.IntKind.i64 1 (iQuo Go.IntKind.i64 (iSub Go.IntKind.i64 (lGet x.2 (iNat x0.2) 0) 1) 8))) ∧ ((iAdd Go.IntKind.i64 1 (iQuo Go.IntKind.i64 (iSub Go.IntKind.i64 (lGet x.2 (iNat x0.2) 0) 1) 8)) < (((List.length x0.1) : Int)))) ∧ ((iNat (iAdd Go.IntKind.i64 1 (iQuo Go.IntKind.i64 (iSub Go.IntKind.i64 (lGet x.2 (iNat x0.2) 0) 1) 8))) < (List.length x0.1))))))))))) ∧ ((iLt x0.2 (lLen x.2)) = false → True))
theorem ve_impl_BitBytes (x : Int × List (Int)) : v_impl_BitBytes x = (bSel (bNot (v_impl_IsReport (x.1, x.2))) [] (loopV (lc_impl_BitBytes_1 x) (lf_impl_BitBytes_1 x) ((lSet (lRep 8 0) (iNat 0) (iConv Go.IntKind.u8 x.1)), 0)).1) := by kernel_rfl
theorem oe_impl_BitBytes (x : Int × List (Int)) : ok_impl_BitBytes x = ((ok_impl_IsReport (x.1, x.2)) ∧ (((bNot (v_impl_IsReport (x.1, x.2))) = true → True) ∧ ((bNot (v_impl_IsReport (x.1, x.2))) = false → ((((0 : Int) ≤ 8) ∧ (roomy 8)) ∧ ((((0 : Int) ≤ 0) ∧ ((0 : Int) < (((List.length (lRep 8 0)) : Int)))) ∧ (((iNat 0) < (List.length (lRep 8 0))) ∧ (LoopOk (lc_impl_BitBytes_1 x) (lf_impl_BitBytes_1 x) (lp_impl_BitBytes_1 x) ((lSet (lRep 8 0) (iNat 0) (iConv Go.IntKind.u8 x.1)), 0)))))))) := by kernel_rfl
theorem ve_laws_FnExactBitBytes (x : Int × List (Int)) : v_laws_FnExactBitBytes x = (bOr (iLt (v_laws_szReport ((x.1, x.2), 1048576)) 0) (bAnd (bNot (bNot (v_laws_eqByteS ((v_impl_BitBytes ((v_laws_toReport (x.1, x.2)).1, (v_laws_toReport (x.1, x.2)).2)), (v_spec_BitBytes ((v_laws_toReport (x.1, x.2)).1, (v_laws_toReport (x.1, x.2)).2)))))) (bAnd (bNot (bNot (v_laws_eqReport (((v_laws_toReport (x.1, x.2)).1, (v_laws_toReport (x.1, x.2)).2), (v_laws_toReport (x.1, x.2)).1, (v_laws_toReport (x.1, x.2)).2)))) (bAnd (bNot (bOr (iLt (mg_laws_markReport ((v_laws_toReport (x.1, x.2)).1, (v_laws_toReport (x.1, x.2)).2) 1).2 0) (bNot (v_laws_eqByteS ((v_impl_BitBytes ((v_laws_toReport (x.1, x.2)).1, (v_laws_toReport (x.1, x.2)).2)), (v_spec_BitBytes ((v_laws_toReport (x.1, x.2)).1, (v_laws_toReport (x.1, x.2)).2))))))) (bAnd (bNot (iLt (v_laws_heldByteS ((mg_laws_markByteS (v_impl_BitBytes ((v_laws_toReport (x.1, x.2)).1, (v_laws_toReport (x.1, x.2)).2)) 1).1, 1)) 0)) (bAnd (bNot (iNe (v_laws_heldByteS ((mg_laws_markByteS (v_impl_BitBytes ((v_laws_toReport (x.1, x.2)).1, (v_laws_toReport (x.1, x.2)).2)) 1).1, 1)) (mg_laws_markByteS (v_impl_BitBytes ((v_laws_toReport (x.1, x.2)).1, (v_laws_toReport (x.1, x.2)).2)) 1).2)) (bAnd (bNot (bNot (v_laws_eqByteS ((v_impl_BitBytes ((v_laws_toReport (x.1, x.2)).1, (v_laws_toReport (x.1, x.2)).2)), (v_spec_BitBytes ((v_laws_toReport (x.1, x.2)).1, (v_laws_toReport (x.1, x.2)).2)))))) (bAnd (bNot (iLt (v_laws_heldByteS ((mg_laws_markByteS (v_impl_BitBytes ((v_laws_toReport (x.1, x.2)).1, (v_laws_toReport (x.1, x.2)).2)) 1).1, 1)) 0)) (bNot (iNe (v_laws_heldByteS ((mg_laws_markByteS (v_impl_BitBytes ((v_laws_toReport (x.1, x.2)).1, (v_laws_toReport (x.1, x.2)).2)) 1).1, 1)) (mg_laws_markByteS (v_impl_BitBytes ((v_laws_toReport (x.1, x.2)).1, (v_laws_toReport (x.1, x.2)).2)) 1).2)))))))))) := by kernel_rfl
theorem oe_laws_FnExactBitBytes (x : Int × List (Int)) : ok_laws_FnExactBitBytes x = ((ok_laws_szReport ((x.1, x.2), 1048576)) ∧ (((iLt (v_laws_szReport ((x.1, x.2), 1048576)) 0) = true → True) ∧ ((iLt (v_laws_szReport ((x.1, x.2), 1048576)) 0) = false → ((ok_laws_toReport (x.1, x.2)) ∧ ((ok_spec_BitBytes ((v_laws_toReport (x.1, x.2)).1, (v_laws_toReport (x.1, x.2)).2)) ∧ ((ok_laws_toReport (x.1, x.2)) ∧ ((ok_impl_BitBytes ((v_laws_toReport (x.1, x.2)).1, (v_laws_toReport (x.1, x.2)).2)) ∧ ((ok_laws_eqByteS ((v_impl_BitBytes ((v_laws_toReport (x.1, x.2)).1, (v_laws_toReport (x.1, x.2)).2)), (v_spec_BitBytes ((v_laws_toReport (x.1, x.2)).1, (v_laws_toReport (x.1, x.2)).2)))) ∧ (((bNot (v_laws_eqByteS ((v_impl_BitBytes ((v_laws_toReport (x.1, x.2)).1, (v_laws_toReport (x.1, x.2)).2)), (v_spec_BitBytes ((v_laws_toReport (x.1, x.2)).1, (v_laws_toReport (x.1, x.2)).2))))) = true → True) ∧ ((bNot (v_laws_eqByteS ((v_impl_BitBytes ((v_laws_toReport (x.1, x.2)).1, (v_laws_toReport (x.1, x.2)).2)), (v_spec_BitBytes ((v_laws_toReport (x.1, x.2)).1, (v_laws_toReport (x.1, x.2)).2))))) = false → ((ok_laws_toReport (x.1, x.2)) ∧ ((ok_laws_eqReport (((v_laws_toReport (x.1, x.2)).1, (v_laws_toReport (x.1, x.2)).2), (v_laws_toReport (x.1, x.2)).1, (v_laws_toReport (x.1, x.2)).2)) ∧ (((bNot (v_laws_eqReport (((v_laws_toReport (x.1, x.2)).1, (v_laws_toReport (x.1, x.2)).2), (v_laws_toReport (x.1, x.2)).1, (v_laws_toReport (x.1, x.2)).2))) = true → True) ∧ ((bNot (v_laws_eqReport (((v_laws_toReport (x.1, x.2)).1, (v_laws_toReport (x.1, x.2)).2), (v_laws_toReport (x.1, x.2)).1, (v_laws_toReport (x.1, x.2)).2))) = false → ((((List.length (v_laws_toReport (x.1, x.2)).2) = (List.length (v_laws_toReport (x.1, x.2)).2)) ∧ (DMk.ok (DMk.mk (RT.cons (CT.int Go.IntKind.i64) (RT.one (CT.sl (RT.one (CT.int Go.IntKind.i64))))) true mok_laws_markReport mg_laws_markReport) ((v_laws_toReport (x.1, x.2)).1, (v_laws_toReport (x.1, x.2)).2))) ∧ ((((iLt (mg_laws_markReport ((v_laws_toReport (x.1, x.2)).1, (v_laws_toReport (x.1, x.2)).2) 1).2 0) = true → True) ∧ ((iLt (mg_laws_markReport ((v_laws_toReport (x.1, x.2)).1, (v_laws_toReport (x.1, x.2)).2) 1).2 0) = false → (ok_laws_eqByteS ((v_impl_BitBytes ((v_laws_toReport (x.1, x.2)).1, (v_laws_toReport (x.1, x.2)).2)), (v_spec_BitBytes ((v_laws_toReport (x.1, x.2)).1, (v_laws_toReport (x.1, x.2)).2)))))) ∧ (((bOr (iLt (mg_laws_markReport ((v_laws_toReport (x.1, x.2)).1, (v_laws_toReport (x.1, x.2)).2) 1).2 0) (bNot (v_laws_eqByteS ((v_impl_BitBytes ((v_laws_toReport (x.1, x.2)).1, (v_laws_toReport (x.1, x.2)).2)), (v_spec_BitBytes ((v_laws_toReport (x.1, x.2)).1, (v_laws_toReport (x.1, x.2)).2)))))) = true → True) ∧ ((bOr (iLt (mg_laws_markReport ((v_laws_toReport (x.1, x.2)).1, (v_laws_toReport (x.1, x.2)).2) 1).2 0) (bNot (v_laws_eqByteS ((v_impl_BitBytes ((v_laws_toReport (x.1, x.2)).1, (v_laws_toReport (x.1, x.2)).2)), (v_spec_BitBytes ((v_laws_toReport (x.1, x.2)).1, (v_laws_toReport (x.1, x.2)).2)))))) = false → ((((List.length (v_impl_BitBytes ((v_laws_toReport (x.1, x.2)).1, (v_laws_toReport (x.1, x.2)).2))) = (List.length (v_impl_BitBytes ((v_laws_toReport (x.1, x.2)).1, (v_laws_toReport (x.1, x.2)).2)))) ∧ (DMk.ok (DMk.mk (RT.one (CT.sl (RT.one (CT.int Go.IntKind.u8)))) false mok_laws_markByteS mg_laws_markByteS) (v_impl_BitBytes ((v_laws_toReport (x.1, x.2)).1, (v_laws_toReport (x.1, x.2)).2)))) ∧ ((ok_laws_heldByteS ((mg_laws_markByteS (v_impl_BitBytes ((v_laws_toReport (x.1, x.2)).1, (v_laws_toReport (x.1, x.2)).2)) 1).1, 1)) ∧ (((iLt (v_laws_heldByteS ((mg_laws_markByteS (v_impl_BitBytes ((v_laws_toReport (x.1, x.2)).1, (v_laws_toReport (x.1, x.2)).2)) 1).1, 1)) 0) = true → True) ∧ ((iLt (v_laws_heldByteS ((mg_laws_markByteS (v_impl_BitBytes ((v_laws_toReport (x.1, x.2)).1, (v_laws_toReport (x.1, x.2)).2)) 1).1, 1)) 0) = false → (((iNe (v_laws_heldByteS ((mg_laws_markByteS (v_impl_BitBytes ((v_laws_toReport (x.1, x.2)).1, (v_laws_toReport (x.1, x.2)).2)) 1).1, 1)) (mg_laws_markByteS (v_impl_BitBytes ((v_laws_toReport (x.1, x.2)).1, (v_laws_toReport (x.1, x.2)).2)) 1).2) = true → True) ∧ ((iNe (v_laws_heldByteS ((mg_laws_markByteS (v_impl_BitBytes ((v_laws_toReport (x.1, x.2)).1, (v_laws_toReport (x.1, x.2)).2)) 1).1, 1)) (mg_laws_markByteS (v_impl_BitBytes ((v_laws_toReport (x.1, x.2)).1, (v_laws_toReport (x.1, x.2)).2)) 1).2) = false → ((ok_laws_toReport (x.1, x.2)) ∧ ((ok_impl_BitBytes ((v_laws_toReport (x.1, x.2)).1, (v_laws_toReport (x.1, x.2)).2)) ∧ ((ok_laws_eqByteS ((v_impl_BitBytes ((v_laws_toReport (x.1, x.2)).1, (v_laws_toReport (x.1, x.2)).2)), (v_spec_BitBytes ((v_laws_toReport (x.1, x.2)).1, (v_laws_toReport (x.1, x.2)).2)))) ∧ (((bNot (v_laws_eqByteS ((v_impl_BitBytes ((v_laws_toReport (x.1, x.2)).1, (v_laws_toReport (x.1, x.2)).2)), (v_spec_BitBytes ((v_laws_toReport (x.1, x.2)).1, (v_laws_toReport (x.1, x.2)).2))))) = true → True) ∧ ((bNot (v_laws_eqByteS ((v_impl_BitBytes ((v_laws_toReport (x.1, x.2)).1, (v_laws_toReport (x.1, x.2)).2)), (v_spec_BitBytes ((v_laws_toReport (x.1, x.2)).1, (v_laws_toReport (x.1, x.2)).2))))) = false → (ok_laws_heldByteS ((mg_laws_markByteS (v_impl_BitBytes ((v_laws_toReport (x.1, x.2)).1, (v_laws_toReport (x.1, x.2)).2)) 1).1, 1))))))))))))))))))))))))))))))) := by kernel_rfl
end
def RepOk (x : Int × List Int) : Prop := (0 ≤ x.1 ∧ x.1 ≤ 15) ∧ ∀ i, i < x.2.length → (1 ≤ x.2.getD i 0 ∧ x.2.getD i 0 ≤ 56) ∧ (0 < i → x.2.getD (i - 1) 0 < x.2.getD i 0)
theorem RepOk.code {x : Int × List Int} (h : RepOk x) (i : Nat) (hi : i < x.2.length) : (i : Int) + 1 ≤ x.2.getD i 0 := by
  induction i with
  | zero => have := (h.2 0 hi).1; omega
  | succ i ih =>
    have h1 := ih (by omega)
    have h2 := (h.2 (i + 1) hi).2 (by omega)
    rw [Nat.add_sub_cancel] at h2
    omega
theorem RepOk.len {x : Int × List Int} (h : RepOk x) : x.2.length ≤ 56 := by
  rcases Nat.lt_or_ge 56 x.2.length with h1 | h1
  · have h2 := h.code 56 h1
    have h3 := (h.2 56 h1).1
    omega
  · exact h1
def repBad (l : List Int) (i : Nat) : Bool := !(decide (1 ≤ l.getD i 0) && decide (l.getD i 0 ≤ 56)) || (decide (0 < i) && decide (l.getD i 0 ≤ l.getD (i - 1) 0))
theorem repBad_iff {m : Int} {l : List Int} : ((0 ≤ m ∧ m ≤ 15) ∧ ∀ i, i < l.length → repBad l i = false) ↔ RepOk (m, l) := by
  unfold RepOk repBad
  refine and_congr Iff.rfl (forall_congr' fun i => imp_congr Iff.rfl ?_)
  simp only [Bool.or_eq_false_iff, Bool.not_eq_false', Bool.and_eq_true, decide_eq_true_eq, Bool.and_eq_false_iff, decide_eq_false_iff_not]
  omega
theorem isReport_spec (m : Int) (l : List Int) (h : l.length ≤ 1048576) : ok_spec_IsReport (m, l) ∧ (v_spec_IsReport (m, l) = true ↔ RepOk (m, l)) := by
  rw [oe_spec_IsReport, ve_spec_IsReport]
  obtain ⟨a1, a2⟩ := scan_loop (c := lc_spec_IsReport_1 (m, l)) (f := lf_spec_IsReport_1) (p := lp_spec_IsReport_1 (m, l)) l.length (repBad l) (by omega) (fun i hi => by
    simp only [lc_spec_IsReport_1, repBad, l1In_eq, lLen_eq, lGet_eq, iNat_eq, bAnd_eq, bNot_eq, bOr_eq, iLt_eq, iGt_eq, iGe_eq, Int.toNat_natCast]
    by_cases h0 : 0 < i
    · rw [iSub_i64 (by unfold In64; omega)]
      have e : ((i : Int) - 1).toNat = i - 1 := by omega
      rw [e]; simp [h0]
    · simp [h0]) (fun i _ => rfl) (fun i hi => by
    unfold lp_spec_IsReport_1
    repeat' (first | exact trivial | assumption | decide | apply And.intro | (intro hh; (try simp (disch := first | omega | (unfold In64; omega)) only [lLen_eq, lN_eq, lGet_eq, iNat_eq, lSet_eq, lApp_eq, lSub_eq, lRep_eq, List.length_set, List.length_append, List.length_cons, List.length_nil, List.length_replicate, List.length_take, List.length_drop, Int.toNat_natCast, Nat.mul_one, Nat.zero_add, iAdd_i64, iSub_i64, iMul_i64, iQuo_i64, iRem_nn, conv_i64, ok_l1In, iLt_eq, iLe_eq, iGt_eq, iGe_eq, iEq_eq, iNe_eq, bNot_eq, bAnd_eq, bOr_eq, Bool.and_eq_true, Bool.or_eq_true, Bool.and_eq_false_iff, Bool.or_eq_false_iff, Bool.not_eq_true', Bool.not_eq_false', decide_eq_true_eq, decide_eq_false_iff_not, Bool.not_not] at hh)) | omega | (unfold roomy; simp (disch := first | omega | (unfold In64; omega)) only [lLen_eq, lN_eq, lGet_eq, iNat_eq, lSet_eq, lApp_eq, lSub_eq, lRep_eq, List.length_set, List.length_append, List.length_cons, List.length_nil, List.length_replicate, List.length_take, List.length_drop, Int.toNat_natCast, Nat.mul_one, Nat.zero_add, iAdd_i64, iSub_i64, iMul_i64, iQuo_i64, iRem_nn, conv_i64, ok_l1In]; omega) | (simp (disch := first | omega | (unfold In64; omega)) only [lLen_eq, lN_eq, lGet_eq, iNat_eq, lSet_eq, lApp_eq, lSub_eq, lRep_eq, List.length_set, List.length_append, List.length_cons, List.length_nil, List.length_replicate, List.length_take, List.length_drop, Int.toNat_natCast, Nat.mul_one, Nat.zero_add, iAdd_i64, iSub_i64, iMul_i64, iQuo_i64, iRem_nn, conv_i64, ok_l1In]; done) | (simp (disch := first | omega | (unfold In64; omega)) only [lLen_eq, lN_eq, lGet_eq, iNat_eq, lSet_eq, lApp_eq, lSub_eq, lRep_eq, List.length_set, List.length_append, List.length_cons, List.length_nil, List.length_replicate, List.length_take, List.length_drop, Int.toNat_natCast, Nat.mul_one, Nat.zero_add, iAdd_i64, iSub_i64, iMul_i64, iQuo_i64, iRem_nn, conv_i64, ok_l1In]; omega)))
  refine ⟨⟨a1, fun _ => trivial, fun _ => ok_l1In _⟩, ?_⟩
  have hle := firstAt_le (repBad l) l.length 0
  rw [← repBad_iff, ← firstAt_all, a2, l1In_eq]
  simp only [bAnd_eq, bNot_eq, iLt_eq, lLen_eq, Bool.and_eq_true, Bool.not_eq_true', decide_eq_false_iff_not, decide_eq_true_eq]
  omega
theorem isReport_impl (m : Int) (l : List Int) (h : l.length ≤ 1048576) : ok_impl_IsReport (m, l) ∧ (v_impl_IsReport (m, l) = true ↔ RepOk (m, l)) := by
  rw [oe_impl_IsReport, ve_impl_IsReport]
  obtain ⟨a1, a2⟩ := scan_loop (c := lc_impl_IsReport_1 (m, l)) (f := lf_impl_IsReport_1) (p := lp_impl_IsReport_1 (m, l)) l.length (repBad l) (by omega) (fun i hi => by
    simp only [lc_impl_IsReport_1, repBad, isCode_eq, lLen_eq, lGet_eq, iNat_eq, bAnd_eq, bNot_eq, bOr_eq, iLt_eq, iGt_eq, iGe_eq, Int.toNat_natCast]
    by_cases h0 : 0 < i
    · rw [iSub_i64 (by unfold In64; omega)]
      have e : ((i : Int) - 1).toNat = i - 1 := by omega
      rw [e]; simp [h0]
    · simp [h0]) (fun i _ => rfl) (fun i hi => by
    unfold lp_impl_IsReport_1
    repeat' (first | exact trivial | assumption | decide | apply And.intro | (intro hh; (try simp (disch := first | omega | (unfold In64; omega)) only [lLen_eq, lN_eq, lGet_eq, iNat_eq, lSet_eq, lApp_eq, lSub_eq, lRep_eq, List.length_set, List.length_append, List.length_cons, List.length_nil, List.length_replicate, List.length_take, List.length_drop, Int.toNat_natCast, Nat.mul_one, Nat.zero_add, iAdd_i64, iSub_i64, iMul_i64, iQuo_i64, iRem_nn, conv_i64, ok_isCode, iLt_eq, iLe_eq, iGt_eq, iGe_eq, iEq_eq, iNe_eq, bNot_eq, bAnd_eq, bOr_eq, Bool.and_eq_true, Bool.or_eq_true, Bool.and_eq_false_iff, Bool.or_eq_false_iff, Bool.not_eq_true', Bool.not_eq_false', decide_eq_true_eq, decide_eq_false_iff_not, Bool.not_not] at hh)) | omega | (unfold roomy; simp (disch := first | omega | (unfold In64; omega)) only [lLen_eq, lN_eq, lGet_eq, iNat_eq, lSet_eq, lApp_eq, lSub_eq, lRep_eq, List.length_set, List.length_append, List.length_cons, List.length_nil, List.length_replicate, List.length_take, List.length_drop, Int.toNat_natCast, Nat.mul_one, Nat.zero_add, iAdd_i64, iSub_i64, iMul_i64, iQuo_i64, iRem_nn, conv_i64, ok_isCode]; omega) | (simp (disch := first | omega | (unfold In64; omega)) only [lLen_eq, lN_eq, lGet_eq, iNat_eq, lSet_eq, lApp_eq, lSub_eq, lRep_eq, List.length_set, List.length_append, List.length_cons, List.length_nil, List.length_replicate, List.length_take, List.length_drop, Int.toNat_natCast, Nat.mul_one, Nat.zero_add, iAdd_i64, iSub_i64, iMul_i64, iQuo_i64, iRem_nn, conv_i64, ok_isCode]; done) | (simp (disch := first | omega | (unfold In64; omega)) only [lLen_eq, lN_eq, lGet_eq, iNat_eq, lSet_eq, lApp_eq, lSub_eq, lRep_eq, List.length_set, List.length_append, List.length_cons, List.length_nil, List.length_replicate, List.length_take, List.length_drop, Int.toNat_natCast, Nat.mul_one, Nat.zero_add, iAdd_i64, iSub_i64, iMul_i64, iQuo_i64, iRem_nn, conv_i64, ok_isCode]; omega)))
  refine ⟨⟨fun _ => trivial, fun _ => a1⟩, ?_⟩
  have hle := firstAt_le (repBad l) l.length 0
  rw [← repBad_iff, ← firstAt_all, a2]
  simp only [bAnd_eq, bNot_eq, bOr_eq, iLt_eq, iGt_eq, lLen_eq, Bool.and_eq_true, Bool.not_eq_true', Bool.or_eq_false_iff, decide_eq_false_iff_not, decide_eq_true_eq]
  omega
theorem isReport_two (x : Int × List Int) (h : x.2.length ≤ 1048576) : ok_spec_IsReport x ∧ ok_impl_IsReport x ∧ v_impl_IsReport x = v_spec_IsReport x ∧ (v_spec_IsReport x = true ↔ RepOk x) := by
  obtain ⟨m, l⟩ := x
  obtain ⟨a1, a2⟩ := isReport_spec m l h
  obtain ⟨b1, b2⟩ := isReport_impl m l h
  exact ⟨a1, b1, by rw [Bool.eq_iff_iff, a2, b2], a2⟩
theorem bitBytes_two (x : Int × List Int) (h : x.2.length ≤ 1048576) : ok_spec_BitBytes x ∧ ok_impl_BitBytes x ∧ v_impl_BitBytes x = v_spec_BitBytes x ∧ (v_spec_BitBytes x).length ≤ 8 := by
  obtain ⟨a1, a2, a3, a4⟩ := isReport_two x h
  rw [oe_spec_BitBytes, oe_impl_BitBytes, ve_spec_BitBytes, ve_impl_BitBytes]
  have e1 : lc_impl_BitBytes_1 x = lc_spec_BitBytes_1 x := rfl
  have e2 : lf_impl_BitBytes_1 x = lf_spec_BitBytes_1 x := rfl
  rw [e1, e2, a3]
  cases hv : v_spec_IsReport x with
  | false =>
    simp [hv, a1, a2, bSel_eq, bNot_eq, a3]
  | true =>
    have hr := a4.1 hv
    have hlen := hr.len
    obtain ⟨b1, b2, b3, b4⟩ := loop_two (c := lc_spec_BitBytes_1 x) (f := lf_spec_BitBytes_1 x) (p := lp_spec_BitBytes_1 x) (d := lc_spec_BitBytes_1 x) (g := lf_spec_BitBytes_1 x) (q := lp_impl_BitBytes_1 x) (x0 := (lSet (lRep 8 0) (iNat 0) (iConv .u8 x.1), 0)) (y0 := (lSet (lRep 8 0) (iNat 0) (iConv .u8 x.1), 0))
      (fun s t => s = t ∧ s.1.length = 8 ∧ 0 ≤ s.2 ∧ s.2 ≤ x.2.length) (fun s => x.2.length - s.2.toNat) (by
        rintro ⟨o, i⟩ t ⟨rfl, h1, h2, h3⟩
        simp only at h1 h2 h3
        obtain ⟨k, rfl⟩ : ∃ k : Nat, i = k := ⟨i.toNat, by omega⟩
        have hc : k < x.2.length → 1 ≤ x.2.getD k 0 ∧ x.2.getD k 0 ≤ 56 := fun hk => (hr.2 k hk).1
        have e1 : k < x.2.length → iSub .i64 (x.2.getD k 0) 1 = x.2.getD k 0 - 1 := fun hk => by have := hc hk; exact iSub_i64 (by unfold In64; omega)
        have e2 : k < x.2.length → iAdd .i64 1 (iQuo .i64 (x.2.getD k 0 - 1) 8) = 1 + (x.2.getD k 0 - 1) / 8 := fun hk => by have := hc hk; rw [iQuo_i64 (by omega) (by unfold In64; omega), iAdd_i64 (by unfold In64; omega)]
        have e3 : k < x.2.length → iRem (x.2.getD k 0 - 1) 8 = (x.2.getD k 0 - 1) % 8 := fun hk => by have := hc hk; exact iRem_nn (by omega)
        refine ⟨?_, ?_, rfl, fun hcc => ?_⟩
        · unfold lp_spec_BitBytes_1
          simp only [lGet_eq, iNat_eq, Int.toNat_natCast, iLt_eq, lLen_eq, decide_eq_true_eq]
          refine ⟨fun hk => ?_, fun _ => trivial⟩
          have hk : k < x.2.length := by omega
          have := hc hk
          rw [e1 hk, e2 hk, e3 hk]
          repeat' (first | exact trivial | assumption | decide | apply And.intro | (intro hh; (try simp (disch := first | omega | (unfold In64; omega)) only [lLen_eq, lN_eq, lGet_eq, iNat_eq, lSet_eq, lApp_eq, lSub_eq, lRep_eq, List.length_set, List.length_append, List.length_cons, List.length_nil, List.length_replicate, List.length_take, List.length_drop, Int.toNat_natCast, Nat.mul_one, Nat.zero_add, iAdd_i64, iSub_i64, iMul_i64, iQuo_i64, iRem_nn, conv_i64, iLt_eq, iLe_eq, iGt_eq, iGe_eq, iEq_eq, iNe_eq, bNot_eq, bAnd_eq, bOr_eq, Bool.and_eq_true, Bool.or_eq_true, Bool.and_eq_false_iff, Bool.or_eq_false_iff, Bool.not_eq_true', Bool.not_eq_false', decide_eq_true_eq, decide_eq_false_iff_not, Bool.not_not] at hh)) | omega | (unfold roomy; simp (disch := first | omega | (unfold In64; omega)) only [lLen_eq, lN_eq, lGet_eq, iNat_eq, lSet_eq, lApp_eq, lSub_eq, lRep_eq, List.length_set, List.length_append, List.length_cons, List.length_nil, List.length_replicate, List.length_take, List.length_drop, Int.toNat_natCast, Nat.mul_one, Nat.zero_add, iAdd_i64, iSub_i64, iMul_i64, iQuo_i64, iRem_nn, conv_i64]; omega) | (simp (disch := first | omega | (unfold In64; omega)) only [lLen_eq, lN_eq, lGet_eq, iNat_eq, lSet_eq, lApp_eq, lSub_eq, lRep_eq, List.length_set, List.length_append, List.length_cons, List.length_nil, List.length_replicate, List.length_take, List.length_drop, Int.toNat_natCast, Nat.mul_one, Nat.zero_add, iAdd_i64, iSub_i64, iMul_i64, iQuo_i64, iRem_nn, conv_i64]; done) | (simp (disch := first | omega | (unfold In64; omega)) only [lLen_eq, lN_eq, lGet_eq, iNat_eq, lSet_eq, lApp_eq, lSub_eq, lRep_eq, List.length_set, List.length_append, List.length_cons, List.length_nil, List.length_replicate, List.length_take, List.length_drop, Int.toNat_natCast, Nat.mul_one, Nat.zero_add, iAdd_i64, iSub_i64, iMul_i64, iQuo_i64, iRem_nn, conv_i64]; omega))
        · unfold lp_impl_BitBytes_1
          simp only [lGet_eq, iNat_eq, Int.toNat_natCast, iLt_eq, lLen_eq, decide_eq_true_eq]
          refine ⟨fun hk => ?_, fun _ => trivial⟩
          have hk : k < x.2.length := by omega
          have := hc hk
          rw [e1 hk, e2 hk, e3 hk]
          repeat' (first | exact trivial | assumption | decide | apply And.intro | (intro hh; (try simp (disch := first | omega | (unfold In64; omega)) only [lLen_eq, lN_eq, lGet_eq, iNat_eq, lSet_eq, lApp_eq, lSub_eq, lRep_eq, List.length_set, List.length_append, List.length_cons, List.length_nil, List.length_replicate, List.length_take, List.length_drop, Int.toNat_natCast, Nat.mul_one, Nat.zero_add, iAdd_i64, iSub_i64, iMul_i64, iQuo_i64, iRem_nn, conv_i64, iLt_eq, iLe_eq, iGt_eq, iGe_eq, iEq_eq, iNe_eq, bNot_eq, bAnd_eq, bOr_eq, Bool.and_eq_true, Bool.or_eq_true, Bool.and_eq_false_iff, Bool.or_eq_false_iff, Bool.not_eq_true', Bool.not_eq_false', decide_eq_true_eq, decide_eq_false_iff_not, Bool.not_not] at hh)) | omega | (unfold roomy; simp (disch := first | omega | (unfold In64; omega)) only [lLen_eq, lN_eq, lGet_eq, iNat_eq, lSet_eq, lApp_eq, lSub_eq, lRep_eq, List.length_set, List.length_append, List.length_cons, List.length_nil, List.length_replicate, List.length_take, List.length_drop, Int.toNat_natCast, Nat.mul_one, Nat.zero_add, iAdd_i64, iSub_i64, iMul_i64, iQuo_i64, iRem_nn, conv_i64]; omega) | (simp (disch := first | omega | (unfold In64; omega)) only [lLen_eq, lN_eq, lGet_eq, iNat_eq, lSet_eq, lApp_eq, lSub_eq, lRep_eq, List.length_set, List.length_append, List.length_cons, List.length_nil, List.length_replicate, List.length_take, List.length_drop, Int.toNat_natCast, Nat.mul_one, Nat.zero_add, iAdd_i64, iSub_i64, iMul_i64, iQuo_i64, iRem_nn, conv_i64]; done) | (simp (disch := first | omega | (unfold In64; omega)) only [lLen_eq, lN_eq, lGet_eq, iNat_eq, lSet_eq, lApp_eq, lSub_eq, lRep_eq, List.length_set, List.length_append, List.length_cons, List.length_nil, List.length_replicate, List.length_take, List.length_drop, Int.toNat_natCast, Nat.mul_one, Nat.zero_add, iAdd_i64, iSub_i64, iMul_i64, iQuo_i64, iRem_nn, conv_i64]; omega))
        · simp only [lc_spec_BitBytes_1, iLt_eq, lLen_eq, decide_eq_true_eq] at hcc
          have e4 : iAdd .i64 (k : Int) 1 = (k : Int) + 1 := iAdd_i64 (by unfold In64; omega)
          simp only [lf_spec_BitBytes_1, lSet_eq, List.length_set, e4]
          refine ⟨⟨trivial, h1, by omega, by omega⟩, by omega⟩) ⟨rfl, by simp [lSet_eq, lRep_eq], by simp, by simp⟩
    have r8 : roomy 8 := by unfold roomy; omega
    have e9 : ∀ {α : Type} (z : α), (lRep 8 z).length = 8 := fun z => by rw [lRep_eq, List.length_replicate]; rfl
    have e0 : iNat 0 < 8 := by rw [iNat_eq]; decide
    refine ⟨?_, ?_, rfl, ?_⟩
    · simp [hv, a1, bNot_eq, b1, r8, e9, e0]
    · simp [hv, a2, bNot_eq, b2, a3, r8, e9, e0]
    · rw [bNot_eq]
      simp only [Bool.not_true, bSel_f]
      omega
theorem wl_Report_of {m : Int} {l : List Int} (h : l.length ≤ maxLen) : wl_Report (m, l) := ⟨h, trivial⟩
theorem plain_FnExactBitBytes (x : Int × List Int) (hw : TuX.wf h_laws_FnExactBitBytes x) : ok_laws_FnExactBitBytes x ∧ v_laws_FnExactBitBytes x = true := by
  rw [oe_laws_FnExactBitBytes, ve_laws_FnExactBitBytes]
  obtain ⟨k1, k2⟩ := sz_Report x (wl_Report_of hw.2.1) 1048576 (by omega) (by omega)
  rcases k2 with k2 | ⟨k2, _, k3⟩
  · have e : iLt (v_laws_szReport (x, 1048576)) 0 = true := by rw [iLt_eq]; simpa using k2
    simp only [e]; simp [bOr_eq, k1]
  · have e : iLt (v_laws_szReport (x, 1048576)) 0 = false := by rw [iLt_eq]; simpa using k2
    obtain ⟨t1, t2⟩ := to_Report x k3
    obtain ⟨q1, q2⟩ := eqR x k3
    obtain ⟨r1, r2, r3, r4⟩ := bitBytes_two x k3.1
    have hsm : sm_ByteS (v_spec_BitBytes x) := by show _ ≤ 1048576; omega
    obtain ⟨b1, b2⟩ := eq_ByteS _ (v_spec_BitBytes x) hsm
    have b3 := b2.2 rfl
    obtain ⟨m1, ⟨m2, m3⟩, _, _⟩ := mh_Report x k3 1 (by omega) (by omega)
    obtain ⟨n1, ⟨n2, n3⟩, n4, n5⟩ := mh_ByteS _ hsm 1 (by omega) (by omega)
    have c1 : iLt (mg_laws_markReport x 1).2 0 = false := by rw [iLt_eq]; simp; omega
    have c2 : iLt (mg_laws_markByteS (v_spec_BitBytes x) 1).2 0 = false := by rw [iLt_eq]; simp; omega
    simp only [e, t2, r3, k1, t1, r1, r2, q1, q2, b1, b3, m1, n1, n4, n5, c1, c2]
    simp [bOr_eq, bAnd_eq, bNot_eq, bIff_eq, iNe_eq]
    exact m1
end Go.Ag
