/-
  FUNCTIONS of the program in the form of the third level, written by program (ag.py) off the seat's own operations. Not trusted: each is checked against the seat's program where it is linked.
-/
import Derived.Test.YtmjjamfkgingcaaLibE
import Derived.KernelRfl
import Derived.Test.YtmjjamfkgingcaaDgP1
namespace Go.Ag
set_option linter.unusedSimpArgs false
set_option linter.unusedVariables false
set_option maxRecDepth 8000

noncomputable def dc_laws_szIntS : DCode :=
  (.seq [1, 0] (.region [⟨0, some 4, .a false (.mv (.c (.int .i64 0))) none, none, []⟩])
  (.seq [1] (.region [⟨0, some 5, .a false (.mv (.t 1)) none, none, []⟩,
    ⟨1, some 6, .a true (.mv (.t 0)) none, none, []⟩,
    ⟨2, some 7, .a false (.len (.t 6)) none, none, []⟩,
    ⟨3, some 8, .a false (.bin .sub (.t 5) (.t 7)) none, none, []⟩,
    ⟨4, some 1, .a false (.mv (.t 8)) none, none, []⟩])
  (.seq [1] (.seq [10, 1] (.region [⟨0, some 9, .a false (.mv (.t 1)) none, none, []⟩,
    ⟨1, some 10, .a false (.bin .lss (.t 9) (.c (.int .i64 0))) none, none, []⟩])
  (.cond (.t 10) (.seq [4] (.region [⟨0, some 4, .a false (.mv (.c (.int .i64 (-1)))) none, none, []⟩])
  .ret) .skip))
  (.seq [4] (.region [⟨0, some 11, .a false (.mv (.t 1)) none, none, []⟩,
    ⟨1, some 4, .a false (.mv (.t 11)) none, none, []⟩])
  .ret))))
noncomputable def df_laws_szIntS : DFun := ⟨2, 12, 0, true, [.tmp 4], dc_laws_szIntS⟩
noncomputable def pf_laws_szIntS : PFun := df_laws_szIntS.er
noncomputable def f_laws_szIntS : AFun := pf_laws_szIntS.er
@[irreducible] noncomputable def s_laws_szIntS : CallSem := funSem f_laws_szIntS
@[irreducible] noncomputable def p_laws_szIntS : PSem := pfunSem pf_laws_szIntS
theorem sp_laws_szIntS : SoundP s_laws_szIntS p_laws_szIntS := by unfold s_laws_szIntS p_laws_szIntS; exact pfun_sound (f := pf_laws_szIntS) trivial
def h_laws_szIntS : List HT := [.one .frz (.sl (.one (.int .i64))), .one .frz (.int .i64)]
def q_laws_szIntS : QT := .one (.one .own (.int .i64))
@[irreducible] noncomputable def v_laws_szIntS (x : List (Int) × Int) : Int := fnV df_laws_szIntS h_laws_szIntS q_laws_szIntS x
@[irreducible] noncomputable def ok_laws_szIntS (x : List (Int) × Int) : Prop := fnOk df_laws_szIntS h_laws_szIntS q_laws_szIntS x
noncomputable def D_laws_szIntS : DSem := DSemOf h_laws_szIntS q_laws_szIntS ok_laws_szIntS v_laws_szIntS
theorem ck_laws_szIntS (x : List (Int) × Int) : fnChk df_laws_szIntS h_laws_szIntS q_laws_szIntS x = true := by kernel_rfl
theorem ob_laws_szIntS : AllD df_laws_szIntS.body.obs := trivial
theorem st_laws_szIntS : fnSt df_laws_szIntS h_laws_szIntS q_laws_szIntS = true := by kernel_rfl
theorem sd_laws_szIntS : SoundD p_laws_szIntS D_laws_szIntS := by unfold p_laws_szIntS; exact soundD_of (f := df_laws_szIntS) (hs := h_laws_szIntS) (q := q_laws_szIntS) ob_laws_szIntS st_laws_szIntS ck_laws_szIntS (fun x h => by unfold ok_laws_szIntS at h; exact h) (fun x => by unfold v_laws_szIntS; rfl)

noncomputable def dc_laws_szReport : DCode :=
  (.seq [2, 1] (.region [⟨0, some 2, .a false (.boxB 0 2 (.t 0)) none, none, []⟩,
    ⟨1, some 4, .a false (.mv (.c (.int .i64 0))) none, none, []⟩])
  (.seq [1] (.region [⟨0, some 5, .a false (.fieldA 1 (.t 2)) none, none, []⟩,
    ⟨1, some 6, .a false (.loadB 0 none (.t 5)) none, none, []⟩,
    ⟨2, some 7, .a false (.mv (.t 1)) none, none, []⟩,
    ⟨3, some 8, .call false s_laws_szIntS p_laws_szIntS D_laws_szIntS [(.t 6), (.t 7)], none, []⟩,
    ⟨4, some 1, .a false (.mv (.t 8)) none, none, []⟩])
  (.seq [1] (.seq [10, 1] (.region [⟨0, some 9, .a false (.mv (.t 1)) none, none, []⟩,
    ⟨1, some 10, .a false (.bin .lss (.t 9) (.c (.int .i64 0))) none, none, []⟩])
  (.cond (.t 10) (.seq [4] (.region [⟨0, some 4, .a false (.mv (.c (.int .i64 (-1)))) none, none, []⟩])
  .ret) .skip))
  (.seq [4] (.region [⟨0, some 11, .a false (.mv (.t 1)) none, none, []⟩,
    ⟨1, some 4, .a false (.mv (.t 11)) none, none, []⟩])
  .ret))))
noncomputable def df_laws_szReport : DFun := ⟨2, 12, 1, true, [.tmp 4], dc_laws_szReport⟩
noncomputable def pf_laws_szReport : PFun := df_laws_szReport.er
noncomputable def f_laws_szReport : AFun := pf_laws_szReport.er
@[irreducible] noncomputable def s_laws_szReport : CallSem := funSem f_laws_szReport
@[irreducible] noncomputable def p_laws_szReport : PSem := pfunSem pf_laws_szReport
theorem sp_laws_szReport : SoundP s_laws_szReport p_laws_szReport := by unfold s_laws_szReport p_laws_szReport; exact pfun_sound (f := pf_laws_szReport) ⟨sp_laws_szIntS, trivial⟩
def h_laws_szReport : List HT := [.agg [(.frz, .int .i64), (.frz, .sl (.one (.int .i64)))], .one .frz (.int .i64)]
def q_laws_szReport : QT := .one (.one .own (.int .i64))
@[irreducible] noncomputable def v_laws_szReport (x : (Int × List (Int)) × Int) : Int := fnV df_laws_szReport h_laws_szReport q_laws_szReport x
@[irreducible] noncomputable def ok_laws_szReport (x : (Int × List (Int)) × Int) : Prop := fnOk df_laws_szReport h_laws_szReport q_laws_szReport x
noncomputable def D_laws_szReport : DSem := DSemOf h_laws_szReport q_laws_szReport ok_laws_szReport v_laws_szReport
theorem ck_laws_szReport (x : (Int × List (Int)) × Int) : fnChk df_laws_szReport h_laws_szReport q_laws_szReport x = true := by kernel_rfl
theorem ob_laws_szReport : AllD df_laws_szReport.body.obs := ⟨sd_laws_szIntS, trivial⟩
theorem st_laws_szReport : fnSt df_laws_szReport h_laws_szReport q_laws_szReport = true := by kernel_rfl
theorem sd_laws_szReport : SoundD p_laws_szReport D_laws_szReport := by unfold p_laws_szReport; exact soundD_of (f := df_laws_szReport) (hs := h_laws_szReport) (q := q_laws_szReport) ob_laws_szReport st_laws_szReport ck_laws_szReport (fun x h => by unfold ok_laws_szReport at h; exact h) (fun x => by unfold v_laws_szReport; rfl)

noncomputable def dc_laws_szSent : DCode :=
  (.seq [2, 1] (.region [⟨0, some 2, .a false (.boxB 0 3 (.t 0)) none, none, []⟩,
    ⟨1, some 4, .a false (.mv (.c (.int .i64 0))) none, none, []⟩])
  (.seq [1] (.region [⟨0, some 5, .a false (.fieldA 1 (.t 2)) none, none, []⟩,
    ⟨1, some 6, .a false (.loadB 0 (some 2) (.t 5)) none, none, []⟩,
    ⟨2, some 7, .a false (.mv (.t 1)) none, none, []⟩,
    ⟨3, some 8, .call false s_laws_szReport p_laws_szReport D_laws_szReport [(.t 6), (.t 7)], none, []⟩,
    ⟨4, some 1, .a false (.mv (.t 8)) none, none, []⟩])
  (.seq [1] (.seq [10, 1] (.region [⟨0, some 9, .a false (.mv (.t 1)) none, none, []⟩,
    ⟨1, some 10, .a false (.bin .lss (.t 9) (.c (.int .i64 0))) none, none, []⟩])
  (.cond (.t 10) (.seq [4] (.region [⟨0, some 4, .a false (.mv (.c (.int .i64 (-1)))) none, none, []⟩])
  .ret) .skip))
  (.seq [4] (.region [⟨0, some 11, .a false (.mv (.t 1)) none, none, []⟩,
    ⟨1, some 4, .a false (.mv (.t 11)) none, none, []⟩])
  .ret))))
noncomputable def df_laws_szSent : DFun := ⟨2, 12, 1, true, [.tmp 4], dc_laws_szSent⟩
noncomputable def pf_laws_szSent : PFun := df_laws_szSent.er
noncomputable def f_laws_szSent : AFun := pf_laws_szSent.er
@[irreducible] noncomputable def s_laws_szSent : CallSem := funSem f_laws_szSent
@[irreducible] noncomputable def p_laws_szSent : PSem := pfunSem pf_laws_szSent
theorem sp_laws_szSent : SoundP s_laws_szSent p_laws_szSent := by unfold s_laws_szSent p_laws_szSent; exact pfun_sound (f := pf_laws_szSent) ⟨sp_laws_szReport, trivial⟩
def h_laws_szSent : List HT := [.agg [(.frz, .int .i64), (.frz, .int .i64), (.frz, .sl (.one (.int .i64)))], .one .frz (.int .i64)]
def q_laws_szSent : QT := .one (.one .own (.int .i64))
@[irreducible] noncomputable def v_laws_szSent (x : (Int × Int × List (Int)) × Int) : Int := fnV df_laws_szSent h_laws_szSent q_laws_szSent x
@[irreducible] noncomputable def ok_laws_szSent (x : (Int × Int × List (Int)) × Int) : Prop := fnOk df_laws_szSent h_laws_szSent q_laws_szSent x
noncomputable def D_laws_szSent : DSem := DSemOf h_laws_szSent q_laws_szSent ok_laws_szSent v_laws_szSent
theorem ck_laws_szSent (x : (Int × Int × List (Int)) × Int) : fnChk df_laws_szSent h_laws_szSent q_laws_szSent x = true := by kernel_rfl
theorem ob_laws_szSent : AllD df_laws_szSent.body.obs := ⟨sd_laws_szReport, trivial⟩
theorem st_laws_szSent : fnSt df_laws_szSent h_laws_szSent q_laws_szSent = true := by kernel_rfl
theorem sd_laws_szSent : SoundD p_laws_szSent D_laws_szSent := by unfold p_laws_szSent; exact soundD_of (f := df_laws_szSent) (hs := h_laws_szSent) (q := q_laws_szSent) ob_laws_szSent st_laws_szSent ck_laws_szSent (fun x h => by unfold ok_laws_szSent at h; exact h) (fun x => by unfold v_laws_szSent; rfl)

noncomputable def dc_laws_szSentS : DCode :=
  (.seq [1, 0] (.region [⟨0, some 4, .a false (.mv (.c (.int .i64 0))) none, none, []⟩])
  (.seq [1, 0] (.region [⟨0, some 6, .a false (.mv (.t 1)) none, none, []⟩,
    ⟨1, some 7, .a true (.mv (.t 0)) none, none, []⟩,
    ⟨2, some 8, .a false (.len (.t 7)) none, none, []⟩,
    ⟨3, some 9, .a false (.bin .sub (.t 6) (.t 8)) none, none, []⟩,
    ⟨4, some 1, .a false (.mv (.t 9)) none, none, []⟩])
  (.seq [1, 0] (.seq [11, 1, 0] (.region [⟨0, some 10, .a false (.mv (.t 1)) none, none, []⟩,
    ⟨1, some 11, .a false (.bin .lss (.t 10) (.c (.int .i64 0))) none, none, []⟩])
  (.cond (.t 11) (.seq [4] (.region [⟨0, some 4, .a false (.mv (.c (.int .i64 (-1)))) none, none, []⟩])
  .ret) .skip))
  (.seq [1] (.seq [5, 1, 0] (.region [⟨0, some 5, .a false (.mv (.c (.int .i64 0))) none, none, []⟩])
  (.block 0 (.loop [0, 1, 5] 1 (.seq [5, 1, 0] (.seq [15, 5, 1, 0] (.region [⟨0, some 12, .a false (.mv (.t 5)) none, none, []⟩,
    ⟨1, some 13, .a true (.mv (.t 0)) none, none, []⟩,
    ⟨2, some 14, .a false (.len (.t 13)) none, none, []⟩,
    ⟨3, some 15, .a false (.bin .lss (.t 12) (.t 14)) none, none, []⟩])
  (.cond (.t 15) .skip (.exit 0)))
  (.seq [5, 1, 0] (.block 1 (.seq [5, 1, 0] (.region [⟨0, some 18, .a true (.mv (.t 0)) none, none, []⟩,
    ⟨1, some 19, .a false (.mv (.t 5)) none, none, []⟩,
    ⟨2, some 20, .a false (.indexA 3 (.t 18) (.t 19)) none, none, []⟩,
    ⟨3, some 21, .a false (.loadH (some 3) (.t 20)) none, none, []⟩,
    ⟨4, some 22, .a false (.mv (.t 1)) none, none, []⟩,
    ⟨5, some 23, .call false s_laws_szSent p_laws_szSent D_laws_szSent [(.t 21), (.t 22)], none, []⟩,
    ⟨6, some 1, .a false (.mv (.t 23)) none, none, []⟩])
  (.seq [25, 5, 1, 0] (.region [⟨0, some 24, .a false (.mv (.t 1)) none, none, []⟩,
    ⟨1, some 25, .a false (.bin .lss (.t 24) (.c (.int .i64 0))) none, none, []⟩])
  (.cond (.t 25) (.seq [4] (.region [⟨0, some 4, .a false (.mv (.c (.int .i64 (-1)))) none, none, []⟩])
  .ret) .skip))))
  (.region [⟨0, some 16, .a false (.mv (.t 5)) none, none, []⟩,
    ⟨1, some 17, .a false (.bin .add (.t 16) (.c (.int .i64 1))) none, none, []⟩,
    ⟨2, some 5, .a false (.mv (.t 17)) none, none, []⟩]))))))
  (.seq [4] (.region [⟨0, some 26, .a false (.mv (.t 1)) none, none, []⟩,
    ⟨1, some 4, .a false (.mv (.t 26)) none, none, []⟩])
  .ret)))))
noncomputable def df_laws_szSentS : DFun := ⟨2, 27, 0, true, [.tmp 4], dc_laws_szSentS⟩
noncomputable def pf_laws_szSentS : PFun := df_laws_szSentS.er
noncomputable def f_laws_szSentS : AFun := pf_laws_szSentS.er
@[irreducible] noncomputable def s_laws_szSentS : CallSem := funSem f_laws_szSentS
@[irreducible] noncomputable def p_laws_szSentS : PSem := pfunSem pf_laws_szSentS
theorem sp_laws_szSentS : SoundP s_laws_szSentS p_laws_szSentS := by unfold s_laws_szSentS p_laws_szSentS; exact pfun_sound (f := pf_laws_szSentS) ⟨sp_laws_szSent, trivial⟩
def h_laws_szSentS : List HT := [.one .frz (.sl (.cons (.int .i64) (.cons (.int .i64) (.one (.sl (.one (.int .i64))))))), .one .frz (.int .i64)]
def q_laws_szSentS : QT := .one (.one .own (.int .i64))
@[irreducible] noncomputable def v_laws_szSentS (x : (List (Int × Int × List (Int))) × Int) : Int := fnV df_laws_szSentS h_laws_szSentS q_laws_szSentS x
@[irreducible] noncomputable def ok_laws_szSentS (x : (List (Int × Int × List (Int))) × Int) : Prop := fnOk df_laws_szSentS h_laws_szSentS q_laws_szSentS x
noncomputable def D_laws_szSentS : DSem := DSemOf h_laws_szSentS q_laws_szSentS ok_laws_szSentS v_laws_szSentS
theorem ck_laws_szSentS (x : (List (Int × Int × List (Int))) × Int) : fnChk df_laws_szSentS h_laws_szSentS q_laws_szSentS x = true := by kernel_rfl
theorem ob_laws_szSentS : AllD df_laws_szSentS.body.obs := ⟨sd_laws_szSent, trivial⟩
theorem st_laws_szSentS : fnSt df_laws_szSentS h_laws_szSentS q_laws_szSentS = true := by kernel_rfl
theorem sd_laws_szSentS : SoundD p_laws_szSentS D_laws_szSentS := by unfold p_laws_szSentS; exact soundD_of (f := df_laws_szSentS) (hs := h_laws_szSentS) (q := q_laws_szSentS) ob_laws_szSentS st_laws_szSentS ck_laws_szSentS (fun x h => by unfold ok_laws_szSentS at h; exact h) (fun x => by unfold v_laws_szSentS; rfl)

noncomputable def dc_laws_toIntS : DCode :=
  (.seq [0] (.region [⟨0, some 2, .a false (.mv (.c .nils)) none, none, []⟩])
  (.seq [3, 0] (.region [⟨0, some 5, .a true (.mv (.t 0)) none, none, []⟩,
    ⟨1, some 6, .a false (.len (.t 5)) none, none, []⟩,
    ⟨2, some 7, .a false (.mkSlice 1 [(.int .i64 0)] (.t 6)) (some (.one (.int .i64))), none, []⟩,
    ⟨3, some 3, .a false (.mv (.t 7)) none, none, []⟩])
  (.seq [3] (.seq [4, 3, 0] (.region [⟨0, some 4, .a false (.mv (.c (.int .i64 0))) none, none, []⟩])
  (.block 0 (.loop [0, 3, 4] 1 (.seq [4, 3, 0] (.seq [11, 4, 3, 0] (.region [⟨0, some 8, .a false (.mv (.t 4)) none, none, []⟩,
    ⟨1, some 9, .a true (.mv (.t 0)) none, none, []⟩,
    ⟨2, some 10, .a false (.len (.t 9)) none, none, []⟩,
    ⟨3, some 11, .a false (.bin .lss (.t 8) (.t 10)) none, none, []⟩])
  (.cond (.t 11) .skip (.exit 0)))
  (.seq [4, 3, 0] (.block 1 (.region [⟨0, some 14, .a true (.mv (.t 3)) none, none, []⟩,
    ⟨1, some 15, .a false (.mv (.t 4)) none, none, []⟩,
    ⟨2, some 16, .a true (.mv (.t 0)) none, none, []⟩,
    ⟨3, some 17, .a false (.mv (.t 4)) none, none, []⟩,
    ⟨4, some 18, .a false (.indexA 1 (.t 16) (.t 17)) none, none, []⟩,
    ⟨5, some 19, .a true (.loadH none (.t 18)) none, none, []⟩,
    ⟨6, some 20, .a false (.indexA 1 (.t 14) (.t 15)) none, none, []⟩,
    ⟨7, none, .a false (.storeH 1 (.t 20) (.t 19)) none, none, []⟩]))
  (.region [⟨0, some 12, .a false (.mv (.t 4)) none, none, []⟩,
    ⟨1, some 13, .a false (.bin .add (.t 12) (.c (.int .i64 1))) none, none, []⟩,
    ⟨2, some 4, .a false (.mv (.t 13)) none, none, []⟩]))))))
  (.seq [2] (.region [⟨0, some 21, .a false (.mv (.t 3)) none, none, []⟩,
    ⟨1, some 2, .a false (.mv (.t 21)) none, none, []⟩])
  .ret))))
noncomputable def df_laws_toIntS : DFun := ⟨1, 22, 0, false, [.tmp 2], dc_laws_toIntS⟩
noncomputable def pf_laws_toIntS : PFun := df_laws_toIntS.er
noncomputable def f_laws_toIntS : AFun := pf_laws_toIntS.er
@[irreducible] noncomputable def s_laws_toIntS : CallSem := funSem f_laws_toIntS
@[irreducible] noncomputable def p_laws_toIntS : PSem := pfunSem pf_laws_toIntS
theorem sp_laws_toIntS : SoundP s_laws_toIntS p_laws_toIntS := by unfold s_laws_toIntS p_laws_toIntS; exact pfun_sound (f := pf_laws_toIntS) trivial
def h_laws_toIntS : List HT := [.one .frz (.sl (.one (.int .i64)))]
def q_laws_toIntS : QT := .one (.one .own (.sl (.one (.int .i64))))
@[irreducible] noncomputable def v_laws_toIntS (x : List (Int)) : List (Int) := fnV df_laws_toIntS h_laws_toIntS q_laws_toIntS x
@[irreducible] noncomputable def ok_laws_toIntS (x : List (Int)) : Prop := fnOk df_laws_toIntS h_laws_toIntS q_laws_toIntS x
noncomputable def D_laws_toIntS : DSem := DSemOf h_laws_toIntS q_laws_toIntS ok_laws_toIntS v_laws_toIntS
theorem ck_laws_toIntS (x : List (Int)) : fnChk df_laws_toIntS h_laws_toIntS q_laws_toIntS x = true := by kernel_rfl
theorem ob_laws_toIntS : AllD df_laws_toIntS.body.obs := trivial
theorem st_laws_toIntS : fnSt df_laws_toIntS h_laws_toIntS q_laws_toIntS = true := by kernel_rfl
theorem sd_laws_toIntS : SoundD p_laws_toIntS D_laws_toIntS := by unfold p_laws_toIntS; exact soundD_of (f := df_laws_toIntS) (hs := h_laws_toIntS) (q := q_laws_toIntS) ob_laws_toIntS st_laws_toIntS ck_laws_toIntS (fun x h => by unfold ok_laws_toIntS at h; exact h) (fun x => by unfold v_laws_toIntS; rfl)

noncomputable def dc_laws_toReport : DCode :=
  (.seq [2, 1] (.region [⟨0, some 1, .a false (.boxB 0 2 (.t 0)) none, none, []⟩,
    ⟨1, some 2, .a false (.allocB 1 [(.int .i64 0), .nils]) none, none, []⟩])
  (.seq [3, 2, 1] (.region [⟨0, some 3, .a false (.allocB 2 [(.int .i64 0), .nils]) none, none, []⟩])
  (.seq [3, 2, 1] (.region [⟨0, some 4, .a false (.fieldA 0 (.t 1)) none, none, []⟩,
    ⟨1, some 5, .a true (.loadB 0 none (.t 4)) none, none, []⟩,
    ⟨2, some 6, .a false (.fieldA 0 (.t 3)) none, none, []⟩,
    ⟨3, none, .a false (.storeB 2 1 (.t 6) (.t 5)) none, none, []⟩])
  (.seq [3, 2] (.region [⟨0, some 7, .a false (.fieldA 1 (.t 1)) none, none, []⟩,
    ⟨1, some 8, .a false (.loadB 0 none (.t 7)) none, none, []⟩,
    ⟨2, some 9, .call false s_laws_toIntS p_laws_toIntS D_laws_toIntS [(.t 8)], none, []⟩,
    ⟨3, some 10, .a false (.fieldA 1 (.t 3)) none, none, []⟩,
    ⟨4, none, .a false (.storeB 2 1 (.t 10) (.t 9)) none, none, []⟩])
  (.seq [2] (.region [⟨0, some 11, .a true (.loadB 2 (some 2) (.t 3)) none, none, []⟩,
    ⟨1, none, .a false (.storeB 1 2 (.t 2) (.t 11)) none, none, []⟩])
  .ret)))))
noncomputable def df_laws_toReport : DFun := ⟨1, 12, 3, false, [.cell 2 (some 2)], dc_laws_toReport⟩
noncomputable def pf_laws_toReport : PFun := df_laws_toReport.er
noncomputable def f_laws_toReport : AFun := pf_laws_toReport.er
@[irreducible] noncomputable def s_laws_toReport : CallSem := funSem f_laws_toReport
@[irreducible] noncomputable def p_laws_toReport : PSem := pfunSem pf_laws_toReport
theorem sp_laws_toReport : SoundP s_laws_toReport p_laws_toReport := by unfold s_laws_toReport p_laws_toReport; exact pfun_sound (f := pf_laws_toReport) ⟨sp_laws_toIntS, trivial⟩
def h_laws_toReport : List HT := [.agg [(.frz, .int .i64), (.frz, .sl (.one (.int .i64)))]]
def q_laws_toReport : QT := .one (.agg [(.own, .int .i64), (.own, .sl (.one (.int .i64)))])
@[irreducible] noncomputable def v_laws_toReport (x : Int × List (Int)) : Int × List (Int) := fnV df_laws_toReport h_laws_toReport q_laws_toReport x
@[irreducible] noncomputable def ok_laws_toReport (x : Int × List (Int)) : Prop := fnOk df_laws_toReport h_laws_toReport q_laws_toReport x
noncomputable def D_laws_toReport : DSem := DSemOf h_laws_toReport q_laws_toReport ok_laws_toReport v_laws_toReport
theorem ck_laws_toReport (x : Int × List (Int)) : fnChk df_laws_toReport h_laws_toReport q_laws_toReport x = true := by kernel_rfl
theorem ob_laws_toReport : AllD df_laws_toReport.body.obs := ⟨sd_laws_toIntS, trivial⟩
theorem st_laws_toReport : fnSt df_laws_toReport h_laws_toReport q_laws_toReport = true := by kernel_rfl
theorem sd_laws_toReport : SoundD p_laws_toReport D_laws_toReport := by unfold p_laws_toReport; exact soundD_of (f := df_laws_toReport) (hs := h_laws_toReport) (q := q_laws_toReport) ob_laws_toReport st_laws_toReport ck_laws_toReport (fun x h => by unfold ok_laws_toReport at h; exact h) (fun x => by unfold v_laws_toReport; rfl)

noncomputable def dc_laws_toSent : DCode :=
  (.seq [2, 1] (.region [⟨0, some 1, .a false (.boxB 0 3 (.t 0)) none, none, []⟩,
    ⟨1, some 2, .a false (.allocB 1 [(.int .i64 0), (.int .i64 0), .nils]) none, none, []⟩])
  (.seq [3, 2, 1] (.region [⟨0, some 3, .a false (.allocB 2 [(.int .i64 0), (.int .i64 0), .nils]) none, none, []⟩])
  (.seq [3, 2, 1] (.region [⟨0, some 4, .a false (.fieldA 0 (.t 1)) none, none, []⟩,
    ⟨1, some 5, .a true (.loadB 0 none (.t 4)) none, none, []⟩,
    ⟨2, some 6, .a false (.fieldA 0 (.t 3)) none, none, []⟩,
    ⟨3, none, .a false (.storeB 2 1 (.t 6) (.t 5)) none, none, []⟩])
  (.seq [3, 2] (.region [⟨0, some 7, .a false (.fieldA 1 (.t 1)) none, none, []⟩,
    ⟨1, some 8, .a false (.loadB 0 (some 2) (.t 7)) none, none, []⟩,
    ⟨2, some 9, .call false s_laws_toReport p_laws_toReport D_laws_toReport [(.t 8)], none, []⟩,
    ⟨3, some 10, .a false (.fieldA 1 (.t 3)) none, none, []⟩,
    ⟨4, none, .a false (.storeB 2 2 (.t 10) (.t 9)) none, none, []⟩])
  (.seq [2] (.region [⟨0, some 11, .a true (.loadB 2 (some 3) (.t 3)) none, none, []⟩,
    ⟨1, none, .a false (.storeB 1 3 (.t 2) (.t 11)) none, none, []⟩])
  .ret)))))
noncomputable def df_laws_toSent : DFun := ⟨1, 12, 3, false, [.cell 2 (some 3)], dc_laws_toSent⟩
noncomputable def pf_laws_toSent : PFun := df_laws_toSent.er
noncomputable def f_laws_toSent : AFun := pf_laws_toSent.er
@[irreducible] noncomputable def s_laws_toSent : CallSem := funSem f_laws_toSent
@[irreducible] noncomputable def p_laws_toSent : PSem := pfunSem pf_laws_toSent
theorem sp_laws_toSent : SoundP s_laws_toSent p_laws_toSent := by unfold s_laws_toSent p_laws_toSent; exact pfun_sound (f := pf_laws_toSent) ⟨sp_laws_toReport, trivial⟩
def h_laws_toSent : List HT := [.agg [(.frz, .int .i64), (.frz, .int .i64), (.frz, .sl (.one (.int .i64)))]]
def q_laws_toSent : QT := .one (.agg [(.own, .int .i64), (.own, .int .i64), (.own, .sl (.one (.int .i64)))])
@[irreducible] noncomputable def v_laws_toSent (x : Int × Int × List (Int)) : Int × Int × List (Int) := fnV df_laws_toSent h_laws_toSent q_laws_toSent x
@[irreducible] noncomputable def ok_laws_toSent (x : Int × Int × List (Int)) : Prop := fnOk df_laws_toSent h_laws_toSent q_laws_toSent x
noncomputable def D_laws_toSent : DSem := DSemOf h_laws_toSent q_laws_toSent ok_laws_toSent v_laws_toSent
theorem ck_laws_toSent (x : Int × Int × List (Int)) : fnChk df_laws_toSent h_laws_toSent q_laws_toSent x = true := by kernel_rfl
theorem ob_laws_toSent : AllD df_laws_toSent.body.obs := ⟨sd_laws_toReport, trivial⟩
theorem st_laws_toSent : fnSt df_laws_toSent h_laws_toSent q_laws_toSent = true := by kernel_rfl
theorem sd_laws_toSent : SoundD p_laws_toSent D_laws_toSent := by unfold p_laws_toSent; exact soundD_of (f := df_laws_toSent) (hs := h_laws_toSent) (q := q_laws_toSent) ob_laws_toSent st_laws_toSent ck_laws_toSent (fun x h => by unfold ok_laws_toSent at h; exact h) (fun x => by unfold v_laws_toSent; rfl)

noncomputable def dc_laws_toSentS : DCode :=
  (.seq [0] (.region [⟨0, some 2, .a false (.mv (.c .nils)) none, none, []⟩])
  (.seq [3, 0] (.region [⟨0, some 5, .a true (.mv (.t 0)) none, none, []⟩,
    ⟨1, some 6, .a false (.len (.t 5)) none, none, []⟩,
    ⟨2, some 7, .a false (.mkSlice 3 [(.int .i64 0), (.int .i64 0), .nils] (.t 6)) (some (.cons (.int .i64) (.cons (.int .i64) (.one (.sl (.one (.int .i64))))))), none, []⟩,
    ⟨3, some 3, .a false (.mv (.t 7)) none, none, []⟩])
  (.seq [3] (.seq [4, 3, 0] (.region [⟨0, some 4, .a false (.mv (.c (.int .i64 0))) none, none, []⟩])
  (.block 0 (.loop [0, 3, 4] 1 (.seq [4, 3, 0] (.seq [11, 4, 3, 0] (.region [⟨0, some 8, .a false (.mv (.t 4)) none, none, []⟩,
    ⟨1, some 9, .a true (.mv (.t 0)) none, none, []⟩,
    ⟨2, some 10, .a false (.len (.t 9)) none, none, []⟩,
    ⟨3, some 11, .a false (.bin .lss (.t 8) (.t 10)) none, none, []⟩])
  (.cond (.t 11) .skip (.exit 0)))
  (.seq [4, 3, 0] (.block 1 (.region [⟨0, some 14, .a true (.mv (.t 3)) none, none, []⟩,
    ⟨1, some 15, .a false (.mv (.t 4)) none, none, []⟩,
    ⟨2, some 16, .a true (.mv (.t 0)) none, none, []⟩,
    ⟨3, some 17, .a false (.mv (.t 4)) none, none, []⟩,
    ⟨4, some 18, .a false (.indexA 3 (.t 16) (.t 17)) none, none, []⟩,
    ⟨5, some 19, .a false (.loadH (some 3) (.t 18)) none, none, []⟩,
    ⟨6, some 20, .call false s_laws_toSent p_laws_toSent D_laws_toSent [(.t 19)], none, []⟩,
    ⟨7, some 21, .a false (.indexA 3 (.t 14) (.t 15)) none, none, []⟩,
    ⟨8, none, .a false (.storeH 3 (.t 21) (.t 20)) none, none, []⟩]))
  (.region [⟨0, some 12, .a false (.mv (.t 4)) none, none, []⟩,
    ⟨1, some 13, .a false (.bin .add (.t 12) (.c (.int .i64 1))) none, none, []⟩,
    ⟨2, some 4, .a false (.mv (.t 13)) none, none, []⟩]))))))
  (.seq [2] (.region [⟨0, some 22, .a false (.mv (.t 3)) none, none, []⟩,
    ⟨1, some 2, .a false (.mv (.t 22)) none, none, []⟩])
  .ret))))
noncomputable def df_laws_toSentS : DFun := ⟨1, 23, 0, false, [.tmp 2], dc_laws_toSentS⟩
noncomputable def pf_laws_toSentS : PFun := df_laws_toSentS.er
noncomputable def f_laws_toSentS : AFun := pf_laws_toSentS.er
@[irreducible] noncomputable def s_laws_toSentS : CallSem := funSem f_laws_toSentS
@[irreducible] noncomputable def p_laws_toSentS : PSem := pfunSem pf_laws_toSentS
theorem sp_laws_toSentS : SoundP s_laws_toSentS p_laws_toSentS := by unfold s_laws_toSentS p_laws_toSentS; exact pfun_sound (f := pf_laws_toSentS) ⟨sp_laws_toSent, trivial⟩
def h_laws_toSentS : List HT := [.one .frz (.sl (.cons (.int .i64) (.cons (.int .i64) (.one (.sl (.one (.int .i64)))))))]
def q_laws_toSentS : QT := .one (.one .own (.sl (.cons (.int .i64) (.cons (.int .i64) (.one (.sl (.one (.int .i64))))))))
@[irreducible] noncomputable def v_laws_toSentS (x : List (Int × Int × List (Int))) : List (Int × Int × List (Int)) := fnV df_laws_toSentS h_laws_toSentS q_laws_toSentS x
@[irreducible] noncomputable def ok_laws_toSentS (x : List (Int × Int × List (Int))) : Prop := fnOk df_laws_toSentS h_laws_toSentS q_laws_toSentS x
noncomputable def D_laws_toSentS : DSem := DSemOf h_laws_toSentS q_laws_toSentS ok_laws_toSentS v_laws_toSentS
theorem ck_laws_toSentS (x : List (Int × Int × List (Int))) : fnChk df_laws_toSentS h_laws_toSentS q_laws_toSentS x = true := by kernel_rfl
theorem ob_laws_toSentS : AllD df_laws_toSentS.body.obs := ⟨sd_laws_toSent, trivial⟩
theorem st_laws_toSentS : fnSt df_laws_toSentS h_laws_toSentS q_laws_toSentS = true := by kernel_rfl
theorem sd_laws_toSentS : SoundD p_laws_toSentS D_laws_toSentS := by unfold p_laws_toSentS; exact soundD_of (f := df_laws_toSentS) (hs := h_laws_toSentS) (q := q_laws_toSentS) ob_laws_toSentS st_laws_toSentS ck_laws_toSentS (fun x h => by unfold ok_laws_toSentS at h; exact h) (fun x => by unfold v_laws_toSentS; rfl)

noncomputable def dc_spec_SameReport : DCode :=
  (.seq [3, 2] (.region [⟨0, some 2, .a false (.boxB 0 2 (.t 0)) none, none, []⟩,
    ⟨1, some 3, .a false (.boxB 1 2 (.t 1)) none, none, []⟩,
    ⟨2, some 4, .a false (.mv (.c (.bool false))) none, none, []⟩])
  (.seq [3, 2] (.seq [19, 3, 2] (.region [⟨0, some 6, .a false (.fieldA 0 (.t 2)) none, none, []⟩,
    ⟨1, some 7, .a false (.loadB 0 none (.t 6)) none, none, []⟩,
    ⟨2, some 8, .a false (.fieldA 0 (.t 3)) none, none, []⟩,
    ⟨3, some 9, .a false (.loadB 1 none (.t 8)) none, none, []⟩,
    ⟨4, some 10, .a false (.bin .neq (.t 7) (.t 9)) none, none, []⟩,
    ⟨5, some 11, .a false (.mv (.t 10)) none, none, []⟩,
    ⟨6, some 12, .a false (.fieldA 1 (.t 2)) none, (some (11, false)), []⟩,
    ⟨7, some 13, .a false (.loadB 0 none (.t 12)) none, (some (11, false)), []⟩,
    ⟨8, some 14, .a false (.len (.t 13)) none, (some (11, false)), []⟩,
    ⟨9, some 15, .a false (.fieldA 1 (.t 3)) none, (some (11, false)), []⟩,
    ⟨10, some 16, .a false (.loadB 1 none (.t 15)) none, (some (11, false)), []⟩,
    ⟨11, some 17, .a false (.len (.t 16)) none, (some (11, false)), []⟩,
    ⟨12, some 18, .a false (.bin .neq (.t 14) (.t 17)) none, (some (11, false)), []⟩,
    ⟨13, some 19, .a false (.pick (.t 11) (.c (.bool true)) (.t 18)) none, none, []⟩])
  (.cond (.t 19) (.seq [4] (.region [⟨0, some 4, .a false (.mv (.c (.bool false))) none, none, []⟩])
  .ret) .skip))
  (.seq [] (.seq [5, 3, 2] (.region [⟨0, some 5, .a false (.mv (.c (.int .i64 0))) none, none, []⟩])
  (.block 0 (.loop [2, 3, 5] 1 (.seq [5, 3, 2] (.seq [24, 5, 3, 2] (.region [⟨0, some 20, .a false (.mv (.t 5)) none, none, []⟩,
    ⟨1, some 21, .a false (.fieldA 1 (.t 2)) none, none, []⟩,
    ⟨2, some 22, .a false (.loadB 0 none (.t 21)) none, none, []⟩,
    ⟨3, some 23, .a false (.len (.t 22)) none, none, []⟩,
    ⟨4, some 24, .a false (.bin .lss (.t 20) (.t 23)) none, none, []⟩])
  (.cond (.t 24) .skip (.exit 0)))
  (.seq [5, 3, 2] (.block 1 (.seq [37, 5, 3, 2] (.region [⟨0, some 27, .a false (.fieldA 1 (.t 2)) none, none, []⟩,
    ⟨1, some 28, .a false (.loadB 0 none (.t 27)) none, none, [0]⟩,
    ⟨2, some 29, .a false (.mv (.t 5)) none, none, []⟩,
    ⟨3, some 30, .a false (.indexA 1 (.t 28) (.t 29)) none, none, [0, 1, 2]⟩,
    ⟨4, some 31, .a false (.loadH none (.t 30)) none, none, [0, 1, 2, 3]⟩,
    ⟨5, some 32, .a false (.fieldA 1 (.t 3)) none, none, []⟩,
    ⟨6, some 33, .a false (.loadB 1 none (.t 32)) none, none, [5]⟩,
    ⟨7, some 34, .a false (.mv (.t 5)) none, none, []⟩,
    ⟨8, some 35, .a false (.indexA 1 (.t 33) (.t 34)) none, none, [5, 6, 7]⟩,
    ⟨9, some 36, .a false (.loadH none (.t 35)) none, none, [5, 6, 7, 8]⟩,
    ⟨10, some 37, .a false (.bin .neq (.t 31) (.t 36)) none, none, [0, 1, 2, 3, 4, 5, 6, 7, 8, 9]⟩])
  (.cond (.t 37) (.seq [4] (.region [⟨0, some 4, .a false (.mv (.c (.bool false))) none, none, []⟩])
  .ret) .skip)))
  (.region [⟨0, some 25, .a false (.mv (.t 5)) none, none, []⟩,
    ⟨1, some 26, .a false (.bin .add (.t 25) (.c (.int .i64 1))) none, none, []⟩,
    ⟨2, some 5, .a false (.mv (.t 26)) none, none, []⟩]))))))
  (.seq [4] (.region [⟨0, some 4, .a false (.mv (.c (.bool true))) none, none, []⟩])
  .ret))))
noncomputable def df_spec_SameReport : DFun := ⟨2, 38, 2, true, [.tmp 4], dc_spec_SameReport⟩
noncomputable def pf_spec_SameReport : PFun := df_spec_SameReport.er
noncomputable def f_spec_SameReport : AFun := pf_spec_SameReport.er
@[irreducible] noncomputable def s_spec_SameReport : CallSem := funSem f_spec_SameReport
@[irreducible] noncomputable def p_spec_SameReport : PSem := pfunSem pf_spec_SameReport
theorem sp_spec_SameReport : SoundP s_spec_SameReport p_spec_SameReport := by unfold s_spec_SameReport p_spec_SameReport; exact pfun_sound (f := pf_spec_SameReport) trivial
def h_spec_SameReport : List HT := [.agg [(.frz, .int .i64), (.frz, .sl (.one (.int .i64)))], .agg [(.frz, .int .i64), (.frz, .sl (.one (.int .i64)))]]
def q_spec_SameReport : QT := .one (.one .own (.bool))
@[irreducible] noncomputable def v_spec_SameReport (x : (Int × List (Int)) × (Int × List (Int))) : Bool := fnV df_spec_SameReport h_spec_SameReport q_spec_SameReport x
@[irreducible] noncomputable def ok_spec_SameReport (x : (Int × List (Int)) × (Int × List (Int))) : Prop := fnOk df_spec_SameReport h_spec_SameReport q_spec_SameReport x
noncomputable def D_spec_SameReport : DSem := DSemOf h_spec_SameReport q_spec_SameReport ok_spec_SameReport v_spec_SameReport
theorem ck_spec_SameReport (x : (Int × List (Int)) × (Int × List (Int))) : fnChk df_spec_SameReport h_spec_SameReport q_spec_SameReport x = true := by kernel_rfl
theorem ob_spec_SameReport : AllD df_spec_SameReport.body.obs := trivial
theorem st_spec_SameReport : fnSt df_spec_SameReport h_spec_SameReport q_spec_SameReport = true := by kernel_rfl
theorem sd_spec_SameReport : SoundD p_spec_SameReport D_spec_SameReport := by unfold p_spec_SameReport; exact soundD_of (f := df_spec_SameReport) (hs := h_spec_SameReport) (q := q_spec_SameReport) ob_spec_SameReport st_spec_SameReport ck_spec_SameReport (fun x h => by unfold ok_spec_SameReport at h; exact h) (fun x => by unfold v_spec_SameReport; rfl)

noncomputable def dc_spec_SameSent : DCode :=
  (.seq [1, 0] (.region [⟨0, some 4, .a false (.mv (.c (.bool false))) none, none, []⟩])
  (.seq [1, 0] (.seq [10, 1, 0] (.region [⟨0, some 6, .a true (.mv (.t 0)) none, none, []⟩,
    ⟨1, some 7, .a false (.len (.t 6)) none, none, []⟩,
    ⟨2, some 8, .a true (.mv (.t 1)) none, none, []⟩,
    ⟨3, some 9, .a false (.len (.t 8)) none, none, []⟩,
    ⟨4, some 10, .a false (.bin .neq (.t 7) (.t 9)) none, none, []⟩])
  (.cond (.t 10) (.seq [4] (.region [⟨0, some 4, .a false (.mv (.c (.bool false))) none, none, []⟩])
  .ret) .skip))
  (.seq [] (.seq [5, 1, 0] (.region [⟨0, some 5, .a false (.mv (.c (.int .i64 0))) none, none, []⟩])
  (.block 0 (.loop [0, 1, 5] 1 (.seq [5, 1, 0] (.seq [14, 5, 1, 0] (.region [⟨0, some 11, .a false (.mv (.t 5)) none, none, []⟩,
    ⟨1, some 12, .a true (.mv (.t 0)) none, none, []⟩,
    ⟨2, some 13, .a false (.len (.t 12)) none, none, []⟩,
    ⟨3, some 14, .a false (.bin .lss (.t 11) (.t 13)) none, none, []⟩])
  (.cond (.t 14) .skip (.exit 0)))
  (.seq [5, 1, 0] (.block 1 (.seq [41, 5, 1, 0] (.region [⟨0, some 17, .a true (.mv (.t 0)) none, none, []⟩,
    ⟨1, some 18, .a false (.mv (.t 5)) none, none, []⟩,
    ⟨2, some 19, .a false (.indexA 3 (.t 17) (.t 18)) none, none, [0, 1]⟩,
    ⟨3, some 20, .a false (.fieldA 0 (.t 19)) none, none, [0, 1, 2]⟩,
    ⟨4, some 21, .a false (.loadH none (.t 20)) none, none, [0, 1, 2, 3]⟩,
    ⟨5, some 22, .a true (.mv (.t 1)) none, none, []⟩,
    ⟨6, some 23, .a false (.mv (.t 5)) none, none, []⟩,
    ⟨7, some 24, .a false (.indexA 3 (.t 22) (.t 23)) none, none, [5, 6]⟩,
    ⟨8, some 25, .a false (.fieldA 0 (.t 24)) none, none, [5, 6, 7]⟩,
    ⟨9, some 26, .a false (.loadH none (.t 25)) none, none, [5, 6, 7, 8]⟩,
    ⟨10, some 27, .a false (.bin .neq (.t 21) (.t 26)) none, none, [0, 1, 2, 3, 4, 5, 6, 7, 8, 9]⟩,
    ⟨11, some 28, .a false (.mv (.t 27)) none, none, [0, 1, 2, 3, 4, 5, 6, 7, 8, 9, 10]⟩,
    ⟨12, some 29, .a true (.mv (.t 0)) none, (some (28, false)), [0, 1, 2, 3, 4, 5, 6, 7, 8, 9, 10, 11]⟩,
    ⟨13, some 30, .a false (.mv (.t 5)) none, (some (28, false)), [0, 1, 2, 3, 4, 5, 6, 7, 8, 9, 10, 11]⟩,
    ⟨14, some 31, .a false (.indexA 3 (.t 29) (.t 30)) none, (some (28, false)), [0, 1, 2, 3, 4, 5, 6, 7, 8, 9, 10, 11, 12, 13]⟩,
    ⟨15, some 32, .a false (.fieldA 1 (.t 31)) none, (some (28, false)), [0, 1, 2, 3, 4, 5, 6, 7, 8, 9, 10, 11, 12, 13, 14]⟩,
    ⟨16, some 33, .a false (.loadH (some 2) (.t 32)) none, (some (28, false)), [0, 1, 2, 3, 4, 5, 6, 7, 8, 9, 10, 11, 12, 13, 14, 15]⟩,
    ⟨17, some 34, .a true (.mv (.t 1)) none, (some (28, false)), [0, 1, 2, 3, 4, 5, 6, 7, 8, 9, 10, 11]⟩,
    ⟨18, some 35, .a false (.mv (.t 5)) none, (some (28, false)), [0, 1, 2, 3, 4, 5, 6, 7, 8, 9, 10, 11]⟩,
    ⟨19, some 36, .a false (.indexA 3 (.t 34) (.t 35)) none, (some (28, false)), [0, 1, 2, 3, 4, 5, 6, 7, 8, 9, 10, 11, 17, 18]⟩,
    ⟨20, some 37, .a false (.fieldA 1 (.t 36)) none, (some (28, false)), [0, 1, 2, 3, 4, 5, 6, 7, 8, 9, 10, 11, 17, 18, 19]⟩,
    ⟨21, some 38, .a false (.loadH (some 2) (.t 37)) none, (some (28, false)), [0, 1, 2, 3, 4, 5, 6, 7, 8, 9, 10, 11, 17, 18, 19, 20]⟩,
    ⟨22, some 39, .call false s_spec_SameReport p_spec_SameReport D_spec_SameReport [(.t 33), (.t 38)], (some (28, false)), [0, 1, 2, 3, 4, 5, 6, 7, 8, 9, 10, 11, 12, 13, 14, 15, 16, 17, 18, 19, 20, 21]⟩,
    ⟨23, some 40, .a false (.un .not (.t 39)) none, (some (28, false)), [0, 1, 2, 3, 4, 5, 6, 7, 8, 9, 10, 11, 12, 13, 14, 15, 16, 17, 18, 19, 20, 21, 22]⟩,
    ⟨24, some 41, .a false (.pick (.t 28) (.c (.bool true)) (.t 40)) none, none, [0, 1, 2, 3, 4, 5, 6, 7, 8, 9, 10, 11, 12, 13, 14, 15, 16, 17, 18, 19, 20, 21, 22, 23]⟩])
  (.cond (.t 41) (.seq [4] (.region [⟨0, some 4, .a false (.mv (.c (.bool false))) none, none, []⟩])
  .ret) .skip)))
  (.region [⟨0, some 15, .a false (.mv (.t 5)) none, none, []⟩,
    ⟨1, some 16, .a false (.bin .add (.t 15) (.c (.int .i64 1))) none, none, []⟩,
    ⟨2, some 5, .a false (.mv (.t 16)) none, none, []⟩]))))))
  (.seq [4] (.region [⟨0, some 4, .a false (.mv (.c (.bool true))) none, none, []⟩])
  .ret))))
noncomputable def df_spec_SameSent : DFun := ⟨2, 42, 0, true, [.tmp 4], dc_spec_SameSent⟩
noncomputable def pf_spec_SameSent : PFun := df_spec_SameSent.er
noncomputable def f_spec_SameSent : AFun := pf_spec_SameSent.er
@[irreducible] noncomputable def s_spec_SameSent : CallSem := funSem f_spec_SameSent
@[irreducible] noncomputable def p_spec_SameSent : PSem := pfunSem pf_spec_SameSent
theorem sp_spec_SameSent : SoundP s_spec_SameSent p_spec_SameSent := by unfold s_spec_SameSent p_spec_SameSent; exact pfun_sound (f := pf_spec_SameSent) ⟨sp_spec_SameReport, trivial⟩
def h_spec_SameSent : List HT := [.one .frz (.sl (.cons (.int .i64) (.cons (.int .i64) (.one (.sl (.one (.int .i64))))))), .one .frz (.sl (.cons (.int .i64) (.cons (.int .i64) (.one (.sl (.one (.int .i64)))))))]
def q_spec_SameSent : QT := .one (.one .own (.bool))
@[irreducible] noncomputable def v_spec_SameSent (x : (List (Int × Int × List (Int))) × (List (Int × Int × List (Int)))) : Bool := fnV df_spec_SameSent h_spec_SameSent q_spec_SameSent x
@[irreducible] noncomputable def ok_spec_SameSent (x : (List (Int × Int × List (Int))) × (List (Int × Int × List (Int)))) : Prop := fnOk df_spec_SameSent h_spec_SameSent q_spec_SameSent x
noncomputable def D_spec_SameSent : DSem := DSemOf h_spec_SameSent q_spec_SameSent ok_spec_SameSent v_spec_SameSent
theorem ck_spec_SameSent (x : (List (Int × Int × List (Int))) × (List (Int × Int × List (Int)))) : fnChk df_spec_SameSent h_spec_SameSent q_spec_SameSent x = true := by kernel_rfl
theorem ob_spec_SameSent : AllD df_spec_SameSent.body.obs := ⟨sd_spec_SameReport, trivial⟩
theorem st_spec_SameSent : fnSt df_spec_SameSent h_spec_SameSent q_spec_SameSent = true := by kernel_rfl
theorem sd_spec_SameSent : SoundD p_spec_SameSent D_spec_SameSent := by unfold p_spec_SameSent; exact soundD_of (f := df_spec_SameSent) (hs := h_spec_SameSent) (q := q_spec_SameSent) ob_spec_SameSent st_spec_SameSent ck_spec_SameSent (fun x h => by unfold ok_spec_SameSent at h; exact h) (fun x => by unfold v_spec_SameSent; rfl)

noncomputable def dc_impl_sameInts : DCode :=
  (.seq [1, 0] (.region [⟨0, some 4, .a false (.mv (.c (.bool false))) none, none, []⟩])
  (.seq [1, 0] (.seq [10, 1, 0] (.region [⟨0, some 6, .a true (.mv (.t 0)) none, none, []⟩,
    ⟨1, some 7, .a false (.len (.t 6)) none, none, []⟩,
    ⟨2, some 8, .a true (.mv (.t 1)) none, none, []⟩,
    ⟨3, some 9, .a false (.len (.t 8)) none, none, []⟩,
    ⟨4, some 10, .a false (.bin .neq (.t 7) (.t 9)) none, none, []⟩])
  (.cond (.t 10) (.seq [4] (.region [⟨0, some 4, .a false (.mv (.c (.bool false))) none, none, []⟩])
  .ret) .skip))
  (.seq [] (.seq [13, 12, 1, 0] (.region [⟨0, some 11, .a true (.mv (.t 0)) none, none, []⟩,
    ⟨1, some 12, .a false (.len (.t 11)) none, none, []⟩,
    ⟨2, some 13, .a false (.mv (.c (.int .i64 0))) none, none, []⟩])
  (.block 0 (.loop [0, 1, 12, 13] 1 (.seq [14, 13, 12, 1, 0] (.region [⟨0, some 14, .a false (.bin .lss (.t 13) (.t 12)) none, none, []⟩])
  (.seq [13, 12, 1, 0] (.cond (.t 14) .skip (.exit 0))
  (.seq [13, 12, 1, 0] (.block 1 (.seq [13, 12, 5, 1, 0] (.region [⟨0, some 15, .a false (.mv (.t 13)) none, none, []⟩,
    ⟨1, some 5, .a false (.mv (.t 15)) none, none, []⟩])
  (.seq [24, 13, 12, 1, 0] (.region [⟨0, some 16, .a true (.mv (.t 0)) none, none, []⟩,
    ⟨1, some 17, .a false (.mv (.t 5)) none, none, []⟩,
    ⟨2, some 18, .a false (.indexA 1 (.t 16) (.t 17)) none, none, [0, 1]⟩,
    ⟨3, some 19, .a false (.loadH none (.t 18)) none, none, [0, 1, 2]⟩,
    ⟨4, some 20, .a true (.mv (.t 1)) none, none, []⟩,
    ⟨5, some 21, .a false (.mv (.t 5)) none, none, []⟩,
    ⟨6, some 22, .a false (.indexA 1 (.t 20) (.t 21)) none, none, [4, 5]⟩,
    ⟨7, some 23, .a false (.loadH none (.t 22)) none, none, [4, 5, 6]⟩,
    ⟨8, some 24, .a false (.bin .neq (.t 19) (.t 23)) none, none, [0, 1, 2, 3, 4, 5, 6, 7]⟩])
  (.cond (.t 24) (.seq [4] (.region [⟨0, some 4, .a false (.mv (.c (.bool false))) none, none, []⟩])
  .ret) .skip))))
  (.region [⟨0, some 25, .a false (.bin .add (.t 13) (.c (.int .i64 1))) none, none, []⟩,
    ⟨1, some 13, .a false (.mv (.t 25)) none, none, []⟩])))))))
  (.seq [4] (.region [⟨0, some 4, .a false (.mv (.c (.bool true))) none, none, []⟩])
  .ret))))
noncomputable def df_impl_sameInts : DFun := ⟨2, 26, 0, true, [.tmp 4], dc_impl_sameInts⟩
noncomputable def pf_impl_sameInts : PFun := df_impl_sameInts.er
noncomputable def f_impl_sameInts : AFun := pf_impl_sameInts.er
@[irreducible] noncomputable def s_impl_sameInts : CallSem := funSem f_impl_sameInts
@[irreducible] noncomputable def p_impl_sameInts : PSem := pfunSem pf_impl_sameInts
theorem sp_impl_sameInts : SoundP s_impl_sameInts p_impl_sameInts := by unfold s_impl_sameInts p_impl_sameInts; exact pfun_sound (f := pf_impl_sameInts) trivial
def h_impl_sameInts : List HT := [.one .frz (.sl (.one (.int .i64))), .one .frz (.sl (.one (.int .i64)))]
def q_impl_sameInts : QT := .one (.one .own (.bool))
@[irreducible] noncomputable def v_impl_sameInts (x : List (Int) × List (Int)) : Bool := fnV df_impl_sameInts h_impl_sameInts q_impl_sameInts x
@[irreducible] noncomputable def ok_impl_sameInts (x : List (Int) × List (Int)) : Prop := fnOk df_impl_sameInts h_impl_sameInts q_impl_sameInts x
noncomputable def D_impl_sameInts : DSem := DSemOf h_impl_sameInts q_impl_sameInts ok_impl_sameInts v_impl_sameInts
theorem ck_impl_sameInts (x : List (Int) × List (Int)) : fnChk df_impl_sameInts h_impl_sameInts q_impl_sameInts x = true := by kernel_rfl
theorem ob_impl_sameInts : AllD df_impl_sameInts.body.obs := trivial
theorem st_impl_sameInts : fnSt df_impl_sameInts h_impl_sameInts q_impl_sameInts = true := by kernel_rfl
theorem sd_impl_sameInts : SoundD p_impl_sameInts D_impl_sameInts := by unfold p_impl_sameInts; exact soundD_of (f := df_impl_sameInts) (hs := h_impl_sameInts) (q := q_impl_sameInts) ob_impl_sameInts st_impl_sameInts ck_impl_sameInts (fun x h => by unfold ok_impl_sameInts at h; exact h) (fun x => by unfold v_impl_sameInts; rfl)

noncomputable def dc_impl_SameReport : DCode :=
  (.seq [3, 2] (.region [⟨0, some 2, .a false (.boxB 0 2 (.t 0)) none, none, []⟩,
    ⟨1, some 3, .a false (.boxB 1 2 (.t 1)) none, none, []⟩,
    ⟨2, some 4, .a false (.mv (.c (.bool false))) none, none, []⟩])
  (.seq [4] (.region [⟨0, some 5, .a false (.fieldA 0 (.t 2)) none, none, []⟩,
    ⟨1, some 6, .a false (.loadB 0 none (.t 5)) none, none, []⟩,
    ⟨2, some 7, .a false (.fieldA 0 (.t 3)) none, none, []⟩,
    ⟨3, some 8, .a false (.loadB 1 none (.t 7)) none, none, []⟩,
    ⟨4, some 9, .a false (.bin .eql (.t 6) (.t 8)) none, none, []⟩,
    ⟨5, some 10, .a false (.mv (.t 9)) none, none, []⟩,
    ⟨6, some 11, .a false (.fieldA 1 (.t 2)) none, (some (10, true)), []⟩,
    ⟨7, some 12, .a false (.loadB 0 none (.t 11)) none, (some (10, true)), []⟩,
    ⟨8, some 13, .a false (.fieldA 1 (.t 3)) none, (some (10, true)), []⟩,
    ⟨9, some 14, .a false (.loadB 1 none (.t 13)) none, (some (10, true)), []⟩,
    ⟨10, some 15, .call false s_impl_sameInts p_impl_sameInts D_impl_sameInts [(.t 12), (.t 14)], (some (10, true)), []⟩,
    ⟨11, some 16, .a false (.pick (.t 10) (.t 15) (.c (.bool false))) none, none, []⟩,
    ⟨12, some 4, .a false (.mv (.t 16)) none, none, []⟩])
  .ret))
noncomputable def df_impl_SameReport : DFun := ⟨2, 17, 2, true, [.tmp 4], dc_impl_SameReport⟩
noncomputable def pf_impl_SameReport : PFun := df_impl_SameReport.er
noncomputable def f_impl_SameReport : AFun := pf_impl_SameReport.er
@[irreducible] noncomputable def s_impl_SameReport : CallSem := funSem f_impl_SameReport
@[irreducible] noncomputable def p_impl_SameReport : PSem := pfunSem pf_impl_SameReport
theorem sp_impl_SameReport : SoundP s_impl_SameReport p_impl_SameReport := by unfold s_impl_SameReport p_impl_SameReport; exact pfun_sound (f := pf_impl_SameReport) ⟨sp_impl_sameInts, trivial⟩
def h_impl_SameReport : List HT := [.agg [(.frz, .int .i64), (.frz, .sl (.one (.int .i64)))], .agg [(.frz, .int .i64), (.frz, .sl (.one (.int .i64)))]]
def q_impl_SameReport : QT := .one (.one .own (.bool))
@[irreducible] noncomputable def v_impl_SameReport (x : (Int × List (Int)) × (Int × List (Int))) : Bool := fnV df_impl_SameReport h_impl_SameReport q_impl_SameReport x
@[irreducible] noncomputable def ok_impl_SameReport (x : (Int × List (Int)) × (Int × List (Int))) : Prop := fnOk df_impl_SameReport h_impl_SameReport q_impl_SameReport x
noncomputable def D_impl_SameReport : DSem := DSemOf h_impl_SameReport q_impl_SameReport ok_impl_SameReport v_impl_SameReport
theorem ck_impl_SameReport (x : (Int × List (Int)) × (Int × List (Int))) : fnChk df_impl_SameReport h_impl_SameReport q_impl_SameReport x = true := by kernel_rfl
theorem ob_impl_SameReport : AllD df_impl_SameReport.body.obs := ⟨sd_impl_sameInts, trivial⟩
theorem st_impl_SameReport : fnSt df_impl_SameReport h_impl_SameReport q_impl_SameReport = true := by kernel_rfl
theorem sd_impl_SameReport : SoundD p_impl_SameReport D_impl_SameReport := by unfold p_impl_SameReport; exact soundD_of (f := df_impl_SameReport) (hs := h_impl_SameReport) (q := q_impl_SameReport) ob_impl_SameReport st_impl_SameReport ck_impl_SameReport (fun x h => by unfold ok_impl_SameReport at h; exact h) (fun x => by unfold v_impl_SameReport; rfl)

noncomputable def dc_impl_SameSent : DCode :=
  (.seq [1, 0] (.region [⟨0, some 4, .a false (.mv (.c (.bool false))) none, none, []⟩])
  (.seq [1, 0] (.seq [10, 1, 0] (.region [⟨0, some 6, .a true (.mv (.t 0)) none, none, []⟩,
    ⟨1, some 7, .a false (.len (.t 6)) none, none, []⟩,
    ⟨2, some 8, .a true (.mv (.t 1)) none, none, []⟩,
    ⟨3, some 9, .a false (.len (.t 8)) none, none, []⟩,
    ⟨4, some 10, .a false (.bin .neq (.t 7) (.t 9)) none, none, []⟩])
  (.cond (.t 10) (.seq [4] (.region [⟨0, some 4, .a false (.mv (.c (.bool false))) none, none, []⟩])
  .ret) .skip))
  (.seq [] (.seq [13, 12, 1, 0] (.region [⟨0, some 11, .a true (.mv (.t 0)) none, none, []⟩,
    ⟨1, some 12, .a false (.len (.t 11)) none, none, []⟩,
    ⟨2, some 13, .a false (.mv (.c (.int .i64 0))) none, none, []⟩])
  (.block 0 (.loop [0, 1, 12, 13] 1 (.seq [14, 13, 12, 1, 0] (.region [⟨0, some 14, .a false (.bin .lss (.t 13) (.t 12)) none, none, []⟩])
  (.seq [13, 12, 1, 0] (.cond (.t 14) .skip (.exit 0))
  (.seq [13, 12, 1, 0] (.block 1 (.seq [13, 12, 5, 1, 0] (.region [⟨0, some 15, .a false (.mv (.t 13)) none, none, []⟩,
    ⟨1, some 5, .a false (.mv (.t 15)) none, none, []⟩])
  (.seq [40, 13, 12, 1, 0] (.region [⟨0, some 16, .a true (.mv (.t 0)) none, none, []⟩,
    ⟨1, some 17, .a false (.mv (.t 5)) none, none, []⟩,
    ⟨2, some 18, .a false (.indexA 3 (.t 16) (.t 17)) none, none, [0, 1]⟩,
    ⟨3, some 19, .a false (.fieldA 0 (.t 18)) none, none, [0, 1, 2]⟩,
    ⟨4, some 20, .a false (.loadH none (.t 19)) none, none, [0, 1, 2, 3]⟩,
    ⟨5, some 21, .a true (.mv (.t 1)) none, none, []⟩,
    ⟨6, some 22, .a false (.mv (.t 5)) none, none, []⟩,
    ⟨7, some 23, .a false (.indexA 3 (.t 21) (.t 22)) none, none, [5, 6]⟩,
    ⟨8, some 24, .a false (.fieldA 0 (.t 23)) none, none, [5, 6, 7]⟩,
    ⟨9, some 25, .a false (.loadH none (.t 24)) none, none, [5, 6, 7, 8]⟩,
    ⟨10, some 26, .a false (.bin .neq (.t 20) (.t 25)) none, none, [0, 1, 2, 3, 4, 5, 6, 7, 8, 9]⟩,
    ⟨11, some 27, .a false (.mv (.t 26)) none, none, [0, 1, 2, 3, 4, 5, 6, 7, 8, 9, 10]⟩,
    ⟨12, some 28, .a true (.mv (.t 0)) none, (some (27, false)), [0, 1, 2, 3, 4, 5, 6, 7, 8, 9, 10, 11]⟩,
    ⟨13, some 29, .a false (.mv (.t 5)) none, (some (27, false)), [0, 1, 2, 3, 4, 5, 6, 7, 8, 9, 10, 11]⟩,
    ⟨14, some 30, .a false (.indexA 3 (.t 28) (.t 29)) none, (some (27, false)), [0, 1, 2, 3, 4, 5, 6, 7, 8, 9, 10, 11, 12, 13]⟩,
    ⟨15, some 31, .a false (.fieldA 1 (.t 30)) none, (some (27, false)), [0, 1, 2, 3, 4, 5, 6, 7, 8, 9, 10, 11, 12, 13, 14]⟩,
    ⟨16, some 32, .a false (.loadH (some 2) (.t 31)) none, (some (27, false)), [0, 1, 2, 3, 4, 5, 6, 7, 8, 9, 10, 11, 12, 13, 14, 15]⟩,
    ⟨17, some 33, .a true (.mv (.t 1)) none, (some (27, false)), [0, 1, 2, 3, 4, 5, 6, 7, 8, 9, 10, 11]⟩,
    ⟨18, some 34, .a false (.mv (.t 5)) none, (some (27, false)), [0, 1, 2, 3, 4, 5, 6, 7, 8, 9, 10, 11]⟩,
    ⟨19, some 35, .a false (.indexA 3 (.t 33) (.t 34)) none, (some (27, false)), [0, 1, 2, 3, 4, 5, 6, 7, 8, 9, 10, 11, 17, 18]⟩,
    ⟨20, some 36, .a false (.fieldA 1 (.t 35)) none, (some (27, false)), [0, 1, 2, 3, 4, 5, 6, 7, 8, 9, 10, 11, 17, 18, 19]⟩,
    ⟨21, some 37, .a false (.loadH (some 2) (.t 36)) none, (some (27, false)), [0, 1, 2, 3, 4, 5, 6, 7, 8, 9, 10, 11, 17, 18, 19, 20]⟩,
    ⟨22, some 38, .call false s_impl_SameReport p_impl_SameReport D_impl_SameReport [(.t 32), (.t 37)], (some (27, false)), [0, 1, 2, 3, 4, 5, 6, 7, 8, 9, 10, 11, 12, 13, 14, 15, 16, 17, 18, 19, 20, 21]⟩,
    ⟨23, some 39, .a false (.un .not (.t 38)) none, (some (27, false)), [0, 1, 2, 3, 4, 5, 6, 7, 8, 9, 10, 11, 12, 13, 14, 15, 16, 17, 18, 19, 20, 21, 22]⟩,
    ⟨24, some 40, .a false (.pick (.t 27) (.c (.bool true)) (.t 39)) none, none, [0, 1, 2, 3, 4, 5, 6, 7, 8, 9, 10, 11, 12, 13, 14, 15, 16, 17, 18, 19, 20, 21, 22, 23]⟩])
  (.cond (.t 40) (.seq [4] (.region [⟨0, some 4, .a false (.mv (.c (.bool false))) none, none, []⟩])
  .ret) .skip))))
  (.region [⟨0, some 41, .a false (.bin .add (.t 13) (.c (.int .i64 1))) none, none, []⟩,
    ⟨1, some 13, .a false (.mv (.t 41)) none, none, []⟩])))))))
  (.seq [4] (.region [⟨0, some 4, .a false (.mv (.c (.bool true))) none, none, []⟩])
  .ret))))
noncomputable def df_impl_SameSent : DFun := ⟨2, 42, 0, true, [.tmp 4], dc_impl_SameSent⟩
noncomputable def pf_impl_SameSent : PFun := df_impl_SameSent.er
noncomputable def f_impl_SameSent : AFun := pf_impl_SameSent.er
@[irreducible] noncomputable def s_impl_SameSent : CallSem := funSem f_impl_SameSent
@[irreducible] noncomputable def p_impl_SameSent : PSem := pfunSem pf_impl_SameSent
theorem sp_impl_SameSent : SoundP s_impl_SameSent p_impl_SameSent := by unfold s_impl_SameSent p_impl_SameSent; exact pfun_sound (f := pf_impl_SameSent) ⟨sp_impl_SameReport, trivial⟩
def h_impl_SameSent : List HT := [.one .frz (.sl (.cons (.int .i64) (.cons (.int .i64) (.one (.sl (.one (.int .i64))))))), .one .frz (.sl (.cons (.int .i64) (.cons (.int .i64) (.one (.sl (.one (.int .i64)))))))]
def q_impl_SameSent : QT := .one (.one .own (.bool))
@[irreducible] noncomputable def v_impl_SameSent (x : (List (Int × Int × List (Int))) × (List (Int × Int × List (Int)))) : Bool := fnV df_impl_SameSent h_impl_SameSent q_impl_SameSent x
@[irreducible] noncomputable def ok_impl_SameSent (x : (List (Int × Int × List (Int))) × (List (Int × Int × List (Int)))) : Prop := fnOk df_impl_SameSent h_impl_SameSent q_impl_SameSent x
noncomputable def D_impl_SameSent : DSem := DSemOf h_impl_SameSent q_impl_SameSent ok_impl_SameSent v_impl_SameSent
theorem ck_impl_SameSent (x : (List (Int × Int × List (Int))) × (List (Int × Int × List (Int)))) : fnChk df_impl_SameSent h_impl_SameSent q_impl_SameSent x = true := by kernel_rfl
theorem ob_impl_SameSent : AllD df_impl_SameSent.body.obs := ⟨sd_impl_SameReport, trivial⟩
theorem st_impl_SameSent : fnSt df_impl_SameSent h_impl_SameSent q_impl_SameSent = true := by kernel_rfl
theorem sd_impl_SameSent : SoundD p_impl_SameSent D_impl_SameSent := by unfold p_impl_SameSent; exact soundD_of (f := df_impl_SameSent) (hs := h_impl_SameSent) (q := q_impl_SameSent) ob_impl_SameSent st_impl_SameSent ck_impl_SameSent (fun x h => by unfold ok_impl_SameSent at h; exact h) (fun x => by unfold v_impl_SameSent; rfl)

noncomputable def dc_laws_eqIntS : DCode :=
  (.seq [1, 0] (.region [⟨0, some 4, .a false (.mv (.c (.bool false))) none, none, []⟩])
  (.seq [1, 0] (.seq [10, 1, 0] (.region [⟨0, some 6, .a true (.mv (.t 0)) none, none, []⟩,
    ⟨1, some 7, .a false (.len (.t 6)) none, none, []⟩,
    ⟨2, some 8, .a true (.mv (.t 1)) none, none, []⟩,
    ⟨3, some 9, .a false (.len (.t 8)) none, none, []⟩,
    ⟨4, some 10, .a false (.bin .neq (.t 7) (.t 9)) none, none, []⟩])
  (.cond (.t 10) (.seq [4] (.region [⟨0, some 4, .a false (.mv (.c (.bool false))) none, none, []⟩])
  .ret) .skip))
  (.seq [] (.seq [5, 1, 0] (.region [⟨0, some 5, .a false (.mv (.c (.int .i64 0))) none, none, []⟩])
  (.block 0 (.loop [0, 1, 5] 1 (.seq [5, 1, 0] (.seq [14, 5, 1, 0] (.region [⟨0, some 11, .a false (.mv (.t 5)) none, none, []⟩,
    ⟨1, some 12, .a true (.mv (.t 0)) none, none, []⟩,
    ⟨2, some 13, .a false (.len (.t 12)) none, none, []⟩,
    ⟨3, some 14, .a false (.bin .lss (.t 11) (.t 13)) none, none, []⟩])
  (.cond (.t 14) .skip (.exit 0)))
  (.seq [5, 1, 0] (.block 1 (.seq [25, 5, 1, 0] (.region [⟨0, some 17, .a true (.mv (.t 0)) none, none, []⟩,
    ⟨1, some 18, .a false (.mv (.t 5)) none, none, []⟩,
    ⟨2, some 19, .a false (.indexA 1 (.t 17) (.t 18)) none, none, [0, 1]⟩,
    ⟨3, some 20, .a false (.loadH none (.t 19)) none, none, [0, 1, 2]⟩,
    ⟨4, some 21, .a true (.mv (.t 1)) none, none, []⟩,
    ⟨5, some 22, .a false (.mv (.t 5)) none, none, []⟩,
    ⟨6, some 23, .a false (.indexA 1 (.t 21) (.t 22)) none, none, [4, 5]⟩,
    ⟨7, some 24, .a false (.loadH none (.t 23)) none, none, [4, 5, 6]⟩,
    ⟨8, some 25, .a false (.bin .neq (.t 20) (.t 24)) none, none, [0, 1, 2, 3, 4, 5, 6, 7]⟩])
  (.cond (.t 25) (.seq [4] (.region [⟨0, some 4, .a false (.mv (.c (.bool false))) none, none, []⟩])
  .ret) .skip)))
  (.region [⟨0, some 15, .a false (.mv (.t 5)) none, none, []⟩,
    ⟨1, some 16, .a false (.bin .add (.t 15) (.c (.int .i64 1))) none, none, []⟩,
    ⟨2, some 5, .a false (.mv (.t 16)) none, none, []⟩]))))))
  (.seq [4] (.region [⟨0, some 4, .a false (.mv (.c (.bool true))) none, none, []⟩])
  .ret))))
noncomputable def df_laws_eqIntS : DFun := ⟨2, 26, 0, true, [.tmp 4], dc_laws_eqIntS⟩
noncomputable def pf_laws_eqIntS : PFun := df_laws_eqIntS.er
noncomputable def f_laws_eqIntS : AFun := pf_laws_eqIntS.er
@[irreducible] noncomputable def s_laws_eqIntS : CallSem := funSem f_laws_eqIntS
@[irreducible] noncomputable def p_laws_eqIntS : PSem := pfunSem pf_laws_eqIntS
theorem sp_laws_eqIntS : SoundP s_laws_eqIntS p_laws_eqIntS := by unfold s_laws_eqIntS p_laws_eqIntS; exact pfun_sound (f := pf_laws_eqIntS) trivial
def h_laws_eqIntS : List HT := [.one .frz (.sl (.one (.int .i64))), .one .frz (.sl (.one (.int .i64)))]
def q_laws_eqIntS : QT := .one (.one .own (.bool))
@[irreducible] noncomputable def v_laws_eqIntS (x : List (Int) × List (Int)) : Bool := fnV df_laws_eqIntS h_laws_eqIntS q_laws_eqIntS x
@[irreducible] noncomputable def ok_laws_eqIntS (x : List (Int) × List (Int)) : Prop := fnOk df_laws_eqIntS h_laws_eqIntS q_laws_eqIntS x
noncomputable def D_laws_eqIntS : DSem := DSemOf h_laws_eqIntS q_laws_eqIntS ok_laws_eqIntS v_laws_eqIntS
theorem ck_laws_eqIntS (x : List (Int) × List (Int)) : fnChk df_laws_eqIntS h_laws_eqIntS q_laws_eqIntS x = true := by kernel_rfl
theorem ob_laws_eqIntS : AllD df_laws_eqIntS.body.obs := trivial
theorem st_laws_eqIntS : fnSt df_laws_eqIntS h_laws_eqIntS q_laws_eqIntS = true := by kernel_rfl
theorem sd_laws_eqIntS : SoundD p_laws_eqIntS D_laws_eqIntS := by unfold p_laws_eqIntS; exact soundD_of (f := df_laws_eqIntS) (hs := h_laws_eqIntS) (q := q_laws_eqIntS) ob_laws_eqIntS st_laws_eqIntS ck_laws_eqIntS (fun x h => by unfold ok_laws_eqIntS at h; exact h) (fun x => by unfold v_laws_eqIntS; rfl)

noncomputable def dc_laws_eqReport : DCode :=
  (.seq [3, 2] (.region [⟨0, some 2, .a false (.boxB 0 2 (.t 0)) none, none, []⟩,
    ⟨1, some 3, .a false (.boxB 1 2 (.t 1)) none, none, []⟩,
    ⟨2, some 4, .a false (.mv (.c (.bool false))) none, none, []⟩])
  (.seq [3, 2] (.seq [9, 3, 2] (.region [⟨0, some 5, .a false (.fieldA 0 (.t 2)) none, none, []⟩,
    ⟨1, some 6, .a false (.loadB 0 none (.t 5)) none, none, []⟩,
    ⟨2, some 7, .a false (.fieldA 0 (.t 3)) none, none, []⟩,
    ⟨3, some 8, .a false (.loadB 1 none (.t 7)) none, none, []⟩,
    ⟨4, some 9, .a false (.bin .neq (.t 6) (.t 8)) none, none, []⟩])
  (.cond (.t 9) (.seq [4] (.region [⟨0, some 4, .a false (.mv (.c (.bool false))) none, none, []⟩])
  .ret) .skip))
  (.seq [] (.seq [15] (.region [⟨0, some 10, .a false (.fieldA 1 (.t 2)) none, none, []⟩,
    ⟨1, some 11, .a false (.loadB 0 none (.t 10)) none, none, []⟩,
    ⟨2, some 12, .a false (.fieldA 1 (.t 3)) none, none, []⟩,
    ⟨3, some 13, .a false (.loadB 1 none (.t 12)) none, none, []⟩,
    ⟨4, some 14, .call false s_laws_eqIntS p_laws_eqIntS D_laws_eqIntS [(.t 11), (.t 13)], none, []⟩,
    ⟨5, some 15, .a false (.un .not (.t 14)) none, none, []⟩])
  (.cond (.t 15) (.seq [4] (.region [⟨0, some 4, .a false (.mv (.c (.bool false))) none, none, []⟩])
  .ret) .skip))
  (.seq [4] (.region [⟨0, some 4, .a false (.mv (.c (.bool true))) none, none, []⟩])
  .ret))))
noncomputable def df_laws_eqReport : DFun := ⟨2, 16, 2, true, [.tmp 4], dc_laws_eqReport⟩
noncomputable def pf_laws_eqReport : PFun := df_laws_eqReport.er
noncomputable def f_laws_eqReport : AFun := pf_laws_eqReport.er
@[irreducible] noncomputable def s_laws_eqReport : CallSem := funSem f_laws_eqReport
@[irreducible] noncomputable def p_laws_eqReport : PSem := pfunSem pf_laws_eqReport
theorem sp_laws_eqReport : SoundP s_laws_eqReport p_laws_eqReport := by unfold s_laws_eqReport p_laws_eqReport; exact pfun_sound (f := pf_laws_eqReport) ⟨sp_laws_eqIntS, trivial⟩
def h_laws_eqReport : List HT := [.agg [(.frz, .int .i64), (.frz, .sl (.one (.int .i64)))], .agg [(.frz, .int .i64), (.frz, .sl (.one (.int .i64)))]]
def q_laws_eqReport : QT := .one (.one .own (.bool))
@[irreducible] noncomputable def v_laws_eqReport (x : (Int × List (Int)) × (Int × List (Int))) : Bool := fnV df_laws_eqReport h_laws_eqReport q_laws_eqReport x
@[irreducible] noncomputable def ok_laws_eqReport (x : (Int × List (Int)) × (Int × List (Int))) : Prop := fnOk df_laws_eqReport h_laws_eqReport q_laws_eqReport x
noncomputable def D_laws_eqReport : DSem := DSemOf h_laws_eqReport q_laws_eqReport ok_laws_eqReport v_laws_eqReport
theorem ck_laws_eqReport (x : (Int × List (Int)) × (Int × List (Int))) : fnChk df_laws_eqReport h_laws_eqReport q_laws_eqReport x = true := by kernel_rfl
theorem ob_laws_eqReport : AllD df_laws_eqReport.body.obs := ⟨sd_laws_eqIntS, trivial⟩
theorem st_laws_eqReport : fnSt df_laws_eqReport h_laws_eqReport q_laws_eqReport = true := by kernel_rfl
theorem sd_laws_eqReport : SoundD p_laws_eqReport D_laws_eqReport := by unfold p_laws_eqReport; exact soundD_of (f := df_laws_eqReport) (hs := h_laws_eqReport) (q := q_laws_eqReport) ob_laws_eqReport st_laws_eqReport ck_laws_eqReport (fun x h => by unfold ok_laws_eqReport at h; exact h) (fun x => by unfold v_laws_eqReport; rfl)

noncomputable def dc_laws_eqSent : DCode :=
  (.seq [3, 2] (.region [⟨0, some 2, .a false (.boxB 0 3 (.t 0)) none, none, []⟩,
    ⟨1, some 3, .a false (.boxB 1 3 (.t 1)) none, none, []⟩,
    ⟨2, some 4, .a false (.mv (.c (.bool false))) none, none, []⟩])
  (.seq [3, 2] (.seq [9, 3, 2] (.region [⟨0, some 5, .a false (.fieldA 0 (.t 2)) none, none, []⟩,
    ⟨1, some 6, .a false (.loadB 0 none (.t 5)) none, none, []⟩,
    ⟨2, some 7, .a false (.fieldA 0 (.t 3)) none, none, []⟩,
    ⟨3, some 8, .a false (.loadB 1 none (.t 7)) none, none, []⟩,
    ⟨4, some 9, .a false (.bin .neq (.t 6) (.t 8)) none, none, []⟩])
  (.cond (.t 9) (.seq [4] (.region [⟨0, some 4, .a false (.mv (.c (.bool false))) none, none, []⟩])
  .ret) .skip))
  (.seq [] (.seq [15] (.region [⟨0, some 10, .a false (.fieldA 1 (.t 2)) none, none, []⟩,
    ⟨1, some 11, .a false (.loadB 0 (some 2) (.t 10)) none, none, []⟩,
    ⟨2, some 12, .a false (.fieldA 1 (.t 3)) none, none, []⟩,
    ⟨3, some 13, .a false (.loadB 1 (some 2) (.t 12)) none, none, []⟩,
    ⟨4, some 14, .call false s_laws_eqReport p_laws_eqReport D_laws_eqReport [(.t 11), (.t 13)], none, []⟩,
    ⟨5, some 15, .a false (.un .not (.t 14)) none, none, []⟩])
  (.cond (.t 15) (.seq [4] (.region [⟨0, some 4, .a false (.mv (.c (.bool false))) none, none, []⟩])
  .ret) .skip))
  (.seq [4] (.region [⟨0, some 4, .a false (.mv (.c (.bool true))) none, none, []⟩])
  .ret))))
noncomputable def df_laws_eqSent : DFun := ⟨2, 16, 2, true, [.tmp 4], dc_laws_eqSent⟩
noncomputable def pf_laws_eqSent : PFun := df_laws_eqSent.er
noncomputable def f_laws_eqSent : AFun := pf_laws_eqSent.er
@[irreducible] noncomputable def s_laws_eqSent : CallSem := funSem f_laws_eqSent
@[irreducible] noncomputable def p_laws_eqSent : PSem := pfunSem pf_laws_eqSent
theorem sp_laws_eqSent : SoundP s_laws_eqSent p_laws_eqSent := by unfold s_laws_eqSent p_laws_eqSent; exact pfun_sound (f := pf_laws_eqSent) ⟨sp_laws_eqReport, trivial⟩
def h_laws_eqSent : List HT := [.agg [(.frz, .int .i64), (.frz, .int .i64), (.frz, .sl (.one (.int .i64)))], .agg [(.frz, .int .i64), (.frz, .int .i64), (.frz, .sl (.one (.int .i64)))]]
def q_laws_eqSent : QT := .one (.one .own (.bool))
@[irreducible] noncomputable def v_laws_eqSent (x : (Int × Int × List (Int)) × (Int × Int × List (Int))) : Bool := fnV df_laws_eqSent h_laws_eqSent q_laws_eqSent x
@[irreducible] noncomputable def ok_laws_eqSent (x : (Int × Int × List (Int)) × (Int × Int × List (Int))) : Prop := fnOk df_laws_eqSent h_laws_eqSent q_laws_eqSent x
noncomputable def D_laws_eqSent : DSem := DSemOf h_laws_eqSent q_laws_eqSent ok_laws_eqSent v_laws_eqSent
theorem ck_laws_eqSent (x : (Int × Int × List (Int)) × (Int × Int × List (Int))) : fnChk df_laws_eqSent h_laws_eqSent q_laws_eqSent x = true := by kernel_rfl
theorem ob_laws_eqSent : AllD df_laws_eqSent.body.obs := ⟨sd_laws_eqReport, trivial⟩
theorem st_laws_eqSent : fnSt df_laws_eqSent h_laws_eqSent q_laws_eqSent = true := by kernel_rfl
theorem sd_laws_eqSent : SoundD p_laws_eqSent D_laws_eqSent := by unfold p_laws_eqSent; exact soundD_of (f := df_laws_eqSent) (hs := h_laws_eqSent) (q := q_laws_eqSent) ob_laws_eqSent st_laws_eqSent ck_laws_eqSent (fun x h => by unfold ok_laws_eqSent at h; exact h) (fun x => by unfold v_laws_eqSent; rfl)

noncomputable def dc_laws_eqSentS : DCode :=
  (.seq [1, 0] (.region [⟨0, some 4, .a false (.mv (.c (.bool false))) none, none, []⟩])
  (.seq [1, 0] (.seq [10, 1, 0] (.region [⟨0, some 6, .a true (.mv (.t 0)) none, none, []⟩,
    ⟨1, some 7, .a false (.len (.t 6)) none, none, []⟩,
    ⟨2, some 8, .a true (.mv (.t 1)) none, none, []⟩,
    ⟨3, some 9, .a false (.len (.t 8)) none, none, []⟩,
    ⟨4, some 10, .a false (.bin .neq (.t 7) (.t 9)) none, none, []⟩])
  (.cond (.t 10) (.seq [4] (.region [⟨0, some 4, .a false (.mv (.c (.bool false))) none, none, []⟩])
  .ret) .skip))
  (.seq [] (.seq [5, 1, 0] (.region [⟨0, some 5, .a false (.mv (.c (.int .i64 0))) none, none, []⟩])
  (.block 0 (.loop [0, 1, 5] 1 (.seq [5, 1, 0] (.seq [14, 5, 1, 0] (.region [⟨0, some 11, .a false (.mv (.t 5)) none, none, []⟩,
    ⟨1, some 12, .a true (.mv (.t 0)) none, none, []⟩,
    ⟨2, some 13, .a false (.len (.t 12)) none, none, []⟩,
    ⟨3, some 14, .a false (.bin .lss (.t 11) (.t 13)) none, none, []⟩])
  (.cond (.t 14) .skip (.exit 0)))
  (.seq [5, 1, 0] (.block 1 (.seq [26, 5, 1, 0] (.region [⟨0, some 17, .a true (.mv (.t 0)) none, none, []⟩,
    ⟨1, some 18, .a false (.mv (.t 5)) none, none, []⟩,
    ⟨2, some 19, .a false (.indexA 3 (.t 17) (.t 18)) none, none, [0, 1]⟩,
    ⟨3, some 20, .a false (.loadH (some 3) (.t 19)) none, none, [0, 1, 2]⟩,
    ⟨4, some 21, .a true (.mv (.t 1)) none, none, []⟩,
    ⟨5, some 22, .a false (.mv (.t 5)) none, none, []⟩,
    ⟨6, some 23, .a false (.indexA 3 (.t 21) (.t 22)) none, none, [4, 5]⟩,
    ⟨7, some 24, .a false (.loadH (some 3) (.t 23)) none, none, [4, 5, 6]⟩,
    ⟨8, some 25, .call false s_laws_eqSent p_laws_eqSent D_laws_eqSent [(.t 20), (.t 24)], none, [0, 1, 2, 3, 4, 5, 6, 7]⟩,
    ⟨9, some 26, .a false (.un .not (.t 25)) none, none, [0, 1, 2, 3, 4, 5, 6, 7, 8]⟩])
  (.cond (.t 26) (.seq [4] (.region [⟨0, some 4, .a false (.mv (.c (.bool false))) none, none, []⟩])
  .ret) .skip)))
  (.region [⟨0, some 15, .a false (.mv (.t 5)) none, none, []⟩,
    ⟨1, some 16, .a false (.bin .add (.t 15) (.c (.int .i64 1))) none, none, []⟩,
    ⟨2, some 5, .a false (.mv (.t 16)) none, none, []⟩]))))))
  (.seq [4] (.region [⟨0, some 4, .a false (.mv (.c (.bool true))) none, none, []⟩])
  .ret))))
noncomputable def df_laws_eqSentS : DFun := ⟨2, 27, 0, true, [.tmp 4], dc_laws_eqSentS⟩
noncomputable def pf_laws_eqSentS : PFun := df_laws_eqSentS.er
noncomputable def f_laws_eqSentS : AFun := pf_laws_eqSentS.er
@[irreducible] noncomputable def s_laws_eqSentS : CallSem := funSem f_laws_eqSentS
@[irreducible] noncomputable def p_laws_eqSentS : PSem := pfunSem pf_laws_eqSentS
theorem sp_laws_eqSentS : SoundP s_laws_eqSentS p_laws_eqSentS := by unfold s_laws_eqSentS p_laws_eqSentS; exact pfun_sound (f := pf_laws_eqSentS) ⟨sp_laws_eqSent, trivial⟩
def h_laws_eqSentS : List HT := [.one .frz (.sl (.cons (.int .i64) (.cons (.int .i64) (.one (.sl (.one (.int .i64))))))), .one .frz (.sl (.cons (.int .i64) (.cons (.int .i64) (.one (.sl (.one (.int .i64)))))))]
def q_laws_eqSentS : QT := .one (.one .own (.bool))
@[irreducible] noncomputable def v_laws_eqSentS (x : (List (Int × Int × List (Int))) × (List (Int × Int × List (Int)))) : Bool := fnV df_laws_eqSentS h_laws_eqSentS q_laws_eqSentS x
@[irreducible] noncomputable def ok_laws_eqSentS (x : (List (Int × Int × List (Int))) × (List (Int × Int × List (Int)))) : Prop := fnOk df_laws_eqSentS h_laws_eqSentS q_laws_eqSentS x
noncomputable def D_laws_eqSentS : DSem := DSemOf h_laws_eqSentS q_laws_eqSentS ok_laws_eqSentS v_laws_eqSentS
theorem ck_laws_eqSentS (x : (List (Int × Int × List (Int))) × (List (Int × Int × List (Int)))) : fnChk df_laws_eqSentS h_laws_eqSentS q_laws_eqSentS x = true := by kernel_rfl
theorem ob_laws_eqSentS : AllD df_laws_eqSentS.body.obs := ⟨sd_laws_eqSent, trivial⟩
theorem st_laws_eqSentS : fnSt df_laws_eqSentS h_laws_eqSentS q_laws_eqSentS = true := by kernel_rfl
theorem sd_laws_eqSentS : SoundD p_laws_eqSentS D_laws_eqSentS := by unfold p_laws_eqSentS; exact soundD_of (f := df_laws_eqSentS) (hs := h_laws_eqSentS) (q := q_laws_eqSentS) ob_laws_eqSentS st_laws_eqSentS ck_laws_eqSentS (fun x h => by unfold ok_laws_eqSentS at h; exact h) (fun x => by unfold v_laws_eqSentS; rfl)

noncomputable def dc_laws_FnExactSameSent : DCode :=
  (.seq [1, 0] (.region [⟨0, some 4, .a false (.mv (.c (.bool false))) none, none, []⟩])
  (.seq [5, 1, 0] (.region [⟨0, some 5, .a false (.mv (.c (.int .i64 1048576))) none, none, []⟩])
  (.seq [5, 1, 0] (.region [⟨0, some 10, .a true (.mv (.t 0)) none, none, []⟩,
    ⟨1, some 11, .a false (.mv (.t 5)) none, none, []⟩,
    ⟨2, some 12, .call false s_laws_szSentS p_laws_szSentS D_laws_szSentS [(.t 10), (.t 11)], none, []⟩,
    ⟨3, some 5, .a false (.mv (.t 12)) none, none, []⟩])
  (.seq [5, 1, 0] (.seq [14, 5, 1, 0] (.region [⟨0, some 13, .a false (.mv (.t 5)) none, none, []⟩,
    ⟨1, some 14, .a false (.bin .lss (.t 13) (.c (.int .i64 0))) none, none, []⟩])
  (.cond (.t 14) (.seq [4] (.region [⟨0, some 4, .a false (.mv (.c (.bool true))) none, none, []⟩])
  .ret) .skip))
  (.seq [5, 1, 0] (.region [⟨0, some 15, .a true (.mv (.t 1)) none, none, []⟩,
    ⟨1, some 16, .a false (.mv (.t 5)) none, none, []⟩,
    ⟨2, some 17, .call false s_laws_szSentS p_laws_szSentS D_laws_szSentS [(.t 15), (.t 16)], none, []⟩,
    ⟨3, some 5, .a false (.mv (.t 17)) none, none, []⟩])
  (.seq [1, 0] (.seq [19, 1, 0] (.region [⟨0, some 18, .a false (.mv (.t 5)) none, none, []⟩,
    ⟨1, some 19, .a false (.bin .lss (.t 18) (.c (.int .i64 0))) none, none, []⟩])
  (.cond (.t 19) (.seq [4] (.region [⟨0, some 4, .a false (.mv (.c (.bool true))) none, none, []⟩])
  .ret) .skip))
  (.seq [6, 1, 0] (.region [⟨0, some 20, .a true (.mv (.t 0)) none, none, []⟩,
    ⟨1, some 21, .call false s_laws_toSentS p_laws_toSentS D_laws_toSentS [(.t 20)], none, []⟩,
    ⟨2, some 22, .a true (.mv (.t 1)) none, none, []⟩,
    ⟨3, some 23, .call false s_laws_toSentS p_laws_toSentS D_laws_toSentS [(.t 22)], none, []⟩,
    ⟨4, some 24, .call false s_spec_SameSent p_spec_SameSent D_spec_SameSent [(.t 21), (.t 23)], none, []⟩,
    ⟨5, some 6, .a false (.mv (.t 24)) none, none, []⟩])
  (.seq [7, 6, 1, 0] (.region [⟨0, some 25, .a true (.mv (.t 0)) none, none, []⟩,
    ⟨1, some 26, .call false s_laws_toSentS p_laws_toSentS D_laws_toSentS [(.t 25)], none, []⟩,
    ⟨2, some 7, .a true (.mv (.t 26)) none, none, []⟩])
  (.seq [8, 7, 6, 1, 0] (.region [⟨0, some 27, .a true (.mv (.t 1)) none, none, []⟩,
    ⟨1, some 28, .call false s_laws_toSentS p_laws_toSentS D_laws_toSentS [(.t 27)], none, []⟩,
    ⟨2, some 8, .a true (.mv (.t 28)) none, none, []⟩])
  (.seq [9, 8, 7, 6, 1, 0] (.region [⟨0, some 29, .a true (.mv (.t 7)) none, none, []⟩,
    ⟨1, some 30, .a true (.mv (.t 8)) none, none, []⟩,
    ⟨2, some 31, .call false s_impl_SameSent p_impl_SameSent D_impl_SameSent [(.t 29), (.t 30)], none, []⟩,
    ⟨3, some 9, .a false (.mv (.t 31)) none, none, []⟩])
  (.seq [8, 7, 1, 0] (.seq [34, 8, 7, 1, 0] (.region [⟨0, some 32, .a false (.mv (.t 9)) none, none, []⟩,
    ⟨1, some 33, .a false (.mv (.t 6)) none, none, []⟩,
    ⟨2, some 34, .a false (.eqB true (.t 32) (.t 33)) none, none, []⟩])
  (.cond (.t 34) (.seq [4] (.region [⟨0, some 4, .a false (.mv (.c (.bool false))) none, none, []⟩])
  .ret) .skip))
  (.seq [8, 1] (.seq [39, 8, 1] (.region [⟨0, some 35, .a true (.mv (.t 7)) none, none, []⟩,
    ⟨1, some 36, .a true (.mv (.t 0)) none, none, []⟩,
    ⟨2, some 37, .call false s_laws_toSentS p_laws_toSentS D_laws_toSentS [(.t 36)], none, []⟩,
    ⟨3, some 38, .call false s_laws_eqSentS p_laws_eqSentS D_laws_eqSentS [(.t 35), (.t 37)], none, []⟩,
    ⟨4, some 39, .a false (.un .not (.t 38)) none, none, []⟩])
  (.cond (.t 39) (.seq [4] (.region [⟨0, some 4, .a false (.mv (.c (.bool false))) none, none, []⟩])
  .ret) .skip))
  (.seq [] (.seq [44] (.region [⟨0, some 40, .a true (.mv (.t 8)) none, none, []⟩,
    ⟨1, some 41, .a true (.mv (.t 1)) none, none, []⟩,
    ⟨2, some 42, .call false s_laws_toSentS p_laws_toSentS D_laws_toSentS [(.t 41)], none, []⟩,
    ⟨3, some 43, .call false s_laws_eqSentS p_laws_eqSentS D_laws_eqSentS [(.t 40), (.t 42)], none, []⟩,
    ⟨4, some 44, .a false (.un .not (.t 43)) none, none, []⟩])
  (.cond (.t 44) (.seq [4] (.region [⟨0, some 4, .a false (.mv (.c (.bool false))) none, none, []⟩])
  .ret) .skip))
  (.seq [4] (.region [⟨0, some 4, .a false (.mv (.c (.bool true))) none, none, []⟩])
  .ret))))))))))))))
noncomputable def df_laws_FnExactSameSent : DFun := ⟨2, 45, 0, true, [.tmp 4], dc_laws_FnExactSameSent⟩
noncomputable def pf_laws_FnExactSameSent : PFun := df_laws_FnExactSameSent.er
noncomputable def f_laws_FnExactSameSent : AFun := pf_laws_FnExactSameSent.er
@[irreducible] noncomputable def s_laws_FnExactSameSent : CallSem := funSem f_laws_FnExactSameSent
@[irreducible] noncomputable def p_laws_FnExactSameSent : PSem := pfunSem pf_laws_FnExactSameSent
theorem sp_laws_FnExactSameSent : SoundP s_laws_FnExactSameSent p_laws_FnExactSameSent := by unfold s_laws_FnExactSameSent p_laws_FnExactSameSent; exact pfun_sound (f := pf_laws_FnExactSameSent) ⟨sp_laws_szSentS, sp_laws_szSentS, sp_laws_toSentS, sp_laws_toSentS, sp_spec_SameSent, sp_laws_toSentS, sp_laws_toSentS, sp_impl_SameSent, sp_laws_toSentS, sp_laws_eqSentS, sp_laws_toSentS, sp_laws_eqSentS, trivial⟩
def h_laws_FnExactSameSent : List HT := [.one .frz (.sl (.cons (.int .i64) (.cons (.int .i64) (.one (.sl (.one (.int .i64))))))), .one .frz (.sl (.cons (.int .i64) (.cons (.int .i64) (.one (.sl (.one (.int .i64)))))))]
def q_laws_FnExactSameSent : QT := .one (.one .own (.bool))
@[irreducible] noncomputable def v_laws_FnExactSameSent (x : (List (Int × Int × List (Int))) × (List (Int × Int × List (Int)))) : Bool := fnV df_laws_FnExactSameSent h_laws_FnExactSameSent q_laws_FnExactSameSent x
@[irreducible] noncomputable def ok_laws_FnExactSameSent (x : (List (Int × Int × List (Int))) × (List (Int × Int × List (Int)))) : Prop := fnOk df_laws_FnExactSameSent h_laws_FnExactSameSent q_laws_FnExactSameSent x
noncomputable def D_laws_FnExactSameSent : DSem := DSemOf h_laws_FnExactSameSent q_laws_FnExactSameSent ok_laws_FnExactSameSent v_laws_FnExactSameSent
theorem ck_laws_FnExactSameSent (x : (List (Int × Int × List (Int))) × (List (Int × Int × List (Int)))) : fnChk df_laws_FnExactSameSent h_laws_FnExactSameSent q_laws_FnExactSameSent x = true := by kernel_rfl
theorem ob_laws_FnExactSameSent : AllD df_laws_FnExactSameSent.body.obs := ⟨sd_laws_szSentS, sd_laws_szSentS, sd_laws_toSentS, sd_laws_toSentS, sd_spec_SameSent, sd_laws_toSentS, sd_laws_toSentS, sd_impl_SameSent, sd_laws_toSentS, sd_laws_eqSentS, sd_laws_toSentS, sd_laws_eqSentS, trivial⟩
theorem st_laws_FnExactSameSent : fnSt df_laws_FnExactSameSent h_laws_FnExactSameSent q_laws_FnExactSameSent = true := by kernel_rfl
theorem sd_laws_FnExactSameSent : SoundD p_laws_FnExactSameSent D_laws_FnExactSameSent := by unfold p_laws_FnExactSameSent; exact soundD_of (f := df_laws_FnExactSameSent) (hs := h_laws_FnExactSameSent) (q := q_laws_FnExactSameSent) ob_laws_FnExactSameSent st_laws_FnExactSameSent ck_laws_FnExactSameSent (fun x h => by unfold ok_laws_FnExactSameSent at h; exact h) (fun x => by unfold v_laws_FnExactSameSent; rfl)

end Go.Ag
