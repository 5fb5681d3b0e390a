/-
  FUNCTIONS of the program in the form of the third level, written by program (ag.py) off the seat's own operations. Not trusted: each is checked against the seat's program where it is linked.
-/
import Derived.Test.YtmjjamfkgingcaaLibE
import Derived.KernelRfl
import Derived.Test.YtmjjamfkgingcaaDgP1
import Derived.Test.YtmjjamfkgingcaaDgP2
namespace Go.Ag
set_option linter.unusedSimpArgs false
set_option linter.unusedVariables false
set_option maxRecDepth 8000

noncomputable def dc_laws_szActionS : DCode :=
  (.seq [1, 0] (.region [⟨0, some 4, .a false (.mv (.c (.int .i64 0))) none, none, []⟩])
  (.seq [1] (.region [⟨0, some 5, .a false (.mv (.t 1)) none, none, []⟩,
    ⟨1, some 6, .a true (.mv (.t 0)) none, none, []⟩,
    ⟨2, some 7, .a false (.len (.t 6)) none, none, []⟩,
    ⟨3, some 8, .a false (.bin .sub (.t 5) (.t 7)) none, none, []⟩,
    ⟨4, some 1, .a false (.mv (.t 8)) none, none, []⟩])
  (.seq [1] (.seq [10, 1] (.region [⟨0, some 9, .a false (.mv (.t 1)) none, none, []⟩,
    ⟨1, some 10, .a false (.bin .lss (.t 9) (.c (.int .i64 0))) none, none, []⟩])
  (.cond (.t 10) (.seq [4] (.region [⟨0, some 4, .a false (.mv (.c (.int .i64 (-1)))) none, none, []⟩])
  .ret) .skip))
  (.seq [4] (.region [⟨0, some 11, .a false (.mv (.t 1)) none, none, []⟩,
    ⟨1, some 4, .a false (.mv (.t 11)) none, none, []⟩])
  .ret))))
noncomputable def df_laws_szActionS : DFun := ⟨2, 12, 0, true, [.tmp 4], dc_laws_szActionS⟩
noncomputable def pf_laws_szActionS : PFun := df_laws_szActionS.er
noncomputable def f_laws_szActionS : AFun := pf_laws_szActionS.er
@[irreducible] noncomputable def s_laws_szActionS : CallSem := funSem f_laws_szActionS
@[irreducible] noncomputable def p_laws_szActionS : PSem := pfunSem pf_laws_szActionS
theorem sp_laws_szActionS : SoundP s_laws_szActionS p_laws_szActionS := by unfold s_laws_szActionS p_laws_szActionS; exact pfun_sound (f := pf_laws_szActionS) trivial
def h_laws_szActionS : List HT := [.one .frz (.sl (.cons (.int .i64) (.cons (.int .i64) (.cons (.int .i64) (.one (.int .i64)))))), .one .frz (.int .i64)]
def q_laws_szActionS : QT := .one (.one .own (.int .i64))
@[irreducible] noncomputable def v_laws_szActionS (x : (List (Int × Int × Int × Int)) × Int) : Int := fnV df_laws_szActionS h_laws_szActionS q_laws_szActionS x
@[irreducible] noncomputable def ok_laws_szActionS (x : (List (Int × Int × Int × Int)) × Int) : Prop := fnOk df_laws_szActionS h_laws_szActionS q_laws_szActionS x
noncomputable def D_laws_szActionS : DSem := DSemOf h_laws_szActionS q_laws_szActionS ok_laws_szActionS v_laws_szActionS
theorem ck_laws_szActionS (x : (List (Int × Int × Int × Int)) × Int) : fnChk df_laws_szActionS h_laws_szActionS q_laws_szActionS x = true := by kernel_rfl
theorem ob_laws_szActionS : AllD df_laws_szActionS.body.obs := trivial
theorem st_laws_szActionS : fnSt df_laws_szActionS h_laws_szActionS q_laws_szActionS = true := by kernel_rfl
theorem sd_laws_szActionS : SoundD p_laws_szActionS D_laws_szActionS := by unfold p_laws_szActionS; exact soundD_of (f := df_laws_szActionS) (hs := h_laws_szActionS) (q := q_laws_szActionS) ob_laws_szActionS st_laws_szActionS ck_laws_szActionS (fun x h => by unfold ok_laws_szActionS at h; exact h) (fun x => by unfold v_laws_szActionS; rfl)

noncomputable def dc_laws_szActionSS : DCode :=
  (.seq [1, 0] (.region [⟨0, some 4, .a false (.mv (.c (.int .i64 0))) none, none, []⟩])
  (.seq [1, 0] (.region [⟨0, some 6, .a false (.mv (.t 1)) none, none, []⟩,
    ⟨1, some 7, .a true (.mv (.t 0)) none, none, []⟩,
    ⟨2, some 8, .a false (.len (.t 7)) none, none, []⟩,
    ⟨3, some 9, .a false (.bin .sub (.t 6) (.t 8)) none, none, []⟩,
    ⟨4, some 1, .a false (.mv (.t 9)) none, none, []⟩])
  (.seq [1, 0] (.seq [11, 1, 0] (.region [⟨0, some 10, .a false (.mv (.t 1)) none, none, []⟩,
    ⟨1, some 11, .a false (.bin .lss (.t 10) (.c (.int .i64 0))) none, none, []⟩])
  (.cond (.t 11) (.seq [4] (.region [⟨0, some 4, .a false (.mv (.c (.int .i64 (-1)))) none, none, []⟩])
  .ret) .skip))
  (.seq [1] (.seq [5, 1, 0] (.region [⟨0, some 5, .a false (.mv (.c (.int .i64 0))) none, none, []⟩])
  (.block 0 (.loop [0, 1, 5] 1 (.seq [5, 1, 0] (.seq [15, 5, 1, 0] (.region [⟨0, some 12, .a false (.mv (.t 5)) none, none, []⟩,
    ⟨1, some 13, .a true (.mv (.t 0)) none, none, []⟩,
    ⟨2, some 14, .a false (.len (.t 13)) none, none, []⟩,
    ⟨3, some 15, .a false (.bin .lss (.t 12) (.t 14)) none, none, []⟩])
  (.cond (.t 15) .skip (.exit 0)))
  (.seq [5, 1, 0] (.block 1 (.seq [5, 1, 0] (.region [⟨0, some 18, .a true (.mv (.t 0)) none, none, []⟩,
    ⟨1, some 19, .a false (.mv (.t 5)) none, none, []⟩,
    ⟨2, some 20, .a false (.indexA 1 (.t 18) (.t 19)) none, none, []⟩,
    ⟨3, some 21, .a false (.loadH none (.t 20)) none, none, []⟩,
    ⟨4, some 22, .a false (.mv (.t 1)) none, none, []⟩,
    ⟨5, some 23, .call false s_laws_szActionS p_laws_szActionS D_laws_szActionS [(.t 21), (.t 22)], none, []⟩,
    ⟨6, some 1, .a false (.mv (.t 23)) none, none, []⟩])
  (.seq [25, 5, 1, 0] (.region [⟨0, some 24, .a false (.mv (.t 1)) none, none, []⟩,
    ⟨1, some 25, .a false (.bin .lss (.t 24) (.c (.int .i64 0))) none, none, []⟩])
  (.cond (.t 25) (.seq [4] (.region [⟨0, some 4, .a false (.mv (.c (.int .i64 (-1)))) none, none, []⟩])
  .ret) .skip))))
  (.region [⟨0, some 16, .a false (.mv (.t 5)) none, none, []⟩,
    ⟨1, some 17, .a false (.bin .add (.t 16) (.c (.int .i64 1))) none, none, []⟩,
    ⟨2, some 5, .a false (.mv (.t 17)) none, none, []⟩]))))))
  (.seq [4] (.region [⟨0, some 26, .a false (.mv (.t 1)) none, none, []⟩,
    ⟨1, some 4, .a false (.mv (.t 26)) none, none, []⟩])
  .ret)))))
noncomputable def df_laws_szActionSS : DFun := ⟨2, 27, 0, true, [.tmp 4], dc_laws_szActionSS⟩
noncomputable def pf_laws_szActionSS : PFun := df_laws_szActionSS.er
noncomputable def f_laws_szActionSS : AFun := pf_laws_szActionSS.er
@[irreducible] noncomputable def s_laws_szActionSS : CallSem := funSem f_laws_szActionSS
@[irreducible] noncomputable def p_laws_szActionSS : PSem := pfunSem pf_laws_szActionSS
theorem sp_laws_szActionSS : SoundP s_laws_szActionSS p_laws_szActionSS := by unfold s_laws_szActionSS p_laws_szActionSS; exact pfun_sound (f := pf_laws_szActionSS) ⟨sp_laws_szActionS, trivial⟩
def h_laws_szActionSS : List HT := [.one .frz (.sl (.one (.sl (.cons (.int .i64) (.cons (.int .i64) (.cons (.int .i64) (.one (.int .i64)))))))), .one .frz (.int .i64)]
def q_laws_szActionSS : QT := .one (.one .own (.int .i64))
@[irreducible] noncomputable def v_laws_szActionSS (x : (List (List (Int × Int × Int × Int))) × Int) : Int := fnV df_laws_szActionSS h_laws_szActionSS q_laws_szActionSS x
@[irreducible] noncomputable def ok_laws_szActionSS (x : (List (List (Int × Int × Int × Int))) × Int) : Prop := fnOk df_laws_szActionSS h_laws_szActionSS q_laws_szActionSS x
noncomputable def D_laws_szActionSS : DSem := DSemOf h_laws_szActionSS q_laws_szActionSS ok_laws_szActionSS v_laws_szActionSS
theorem ck_laws_szActionSS (x : (List (List (Int × Int × Int × Int))) × Int) : fnChk df_laws_szActionSS h_laws_szActionSS q_laws_szActionSS x = true := by kernel_rfl
theorem ob_laws_szActionSS : AllD df_laws_szActionSS.body.obs := ⟨sd_laws_szActionS, trivial⟩
theorem st_laws_szActionSS : fnSt df_laws_szActionSS h_laws_szActionSS q_laws_szActionSS = true := by kernel_rfl
theorem sd_laws_szActionSS : SoundD p_laws_szActionSS D_laws_szActionSS := by unfold p_laws_szActionSS; exact soundD_of (f := df_laws_szActionSS) (hs := h_laws_szActionSS) (q := q_laws_szActionSS) ob_laws_szActionSS st_laws_szActionSS ck_laws_szActionSS (fun x h => by unfold ok_laws_szActionSS at h; exact h) (fun x => by unfold v_laws_szActionSS; rfl)

noncomputable def dc_laws_szKeymap : DCode :=
  (.seq [2, 1] (.region [⟨0, some 2, .a false (.boxB 0 2 (.t 0)) none, none, []⟩,
    ⟨1, some 4, .a false (.mv (.c (.int .i64 0))) none, none, []⟩])
  (.seq [1] (.region [⟨0, some 5, .a false (.fieldA 1 (.t 2)) none, none, []⟩,
    ⟨1, some 6, .a false (.loadB 0 none (.t 5)) none, none, []⟩,
    ⟨2, some 7, .a false (.mv (.t 1)) none, none, []⟩,
    ⟨3, some 8, .call false s_laws_szActionSS p_laws_szActionSS D_laws_szActionSS [(.t 6), (.t 7)], none, []⟩,
    ⟨4, some 1, .a false (.mv (.t 8)) none, none, []⟩])
  (.seq [1] (.seq [10, 1] (.region [⟨0, some 9, .a false (.mv (.t 1)) none, none, []⟩,
    ⟨1, some 10, .a false (.bin .lss (.t 9) (.c (.int .i64 0))) none, none, []⟩])
  (.cond (.t 10) (.seq [4] (.region [⟨0, some 4, .a false (.mv (.c (.int .i64 (-1)))) none, none, []⟩])
  .ret) .skip))
  (.seq [4] (.region [⟨0, some 11, .a false (.mv (.t 1)) none, none, []⟩,
    ⟨1, some 4, .a false (.mv (.t 11)) none, none, []⟩])
  .ret))))
noncomputable def df_laws_szKeymap : DFun := ⟨2, 12, 1, true, [.tmp 4], dc_laws_szKeymap⟩
noncomputable def pf_laws_szKeymap : PFun := df_laws_szKeymap.er
noncomputable def f_laws_szKeymap : AFun := pf_laws_szKeymap.er
@[irreducible] noncomputable def s_laws_szKeymap : CallSem := funSem f_laws_szKeymap
@[irreducible] noncomputable def p_laws_szKeymap : PSem := pfunSem pf_laws_szKeymap
theorem sp_laws_szKeymap : SoundP s_laws_szKeymap p_laws_szKeymap := by unfold s_laws_szKeymap p_laws_szKeymap; exact pfun_sound (f := pf_laws_szKeymap) ⟨sp_laws_szActionSS, trivial⟩
def h_laws_szKeymap : List HT := [.agg [(.frz, .int .i64), (.frz, .sl (.one (.sl (.cons (.int .i64) (.cons (.int .i64) (.cons (.int .i64) (.one (.int .i64))))))))], .one .frz (.int .i64)]
def q_laws_szKeymap : QT := .one (.one .own (.int .i64))
@[irreducible] noncomputable def v_laws_szKeymap (x : (Int × (List (List (Int × Int × Int × Int)))) × Int) : Int := fnV df_laws_szKeymap h_laws_szKeymap q_laws_szKeymap x
@[irreducible] noncomputable def ok_laws_szKeymap (x : (Int × (List (List (Int × Int × Int × Int)))) × Int) : Prop := fnOk df_laws_szKeymap h_laws_szKeymap q_laws_szKeymap x
noncomputable def D_laws_szKeymap : DSem := DSemOf h_laws_szKeymap q_laws_szKeymap ok_laws_szKeymap v_laws_szKeymap
theorem ck_laws_szKeymap (x : (Int × (List (List (Int × Int × Int × Int)))) × Int) : fnChk df_laws_szKeymap h_laws_szKeymap q_laws_szKeymap x = true := by kernel_rfl
theorem ob_laws_szKeymap : AllD df_laws_szKeymap.body.obs := ⟨sd_laws_szActionSS, trivial⟩
theorem st_laws_szKeymap : fnSt df_laws_szKeymap h_laws_szKeymap q_laws_szKeymap = true := by kernel_rfl
theorem sd_laws_szKeymap : SoundD p_laws_szKeymap D_laws_szKeymap := by unfold p_laws_szKeymap; exact soundD_of (f := df_laws_szKeymap) (hs := h_laws_szKeymap) (q := q_laws_szKeymap) ob_laws_szKeymap st_laws_szKeymap ck_laws_szKeymap (fun x h => by unfold ok_laws_szKeymap at h; exact h) (fun x => by unfold v_laws_szKeymap; rfl)

noncomputable def dc_laws_toActionS : DCode :=
  (.seq [0] (.region [⟨0, some 2, .a false (.mv (.c .nils)) none, none, []⟩])
  (.seq [3, 0] (.region [⟨0, some 5, .a true (.mv (.t 0)) none, none, []⟩,
    ⟨1, some 6, .a false (.len (.t 5)) none, none, []⟩,
    ⟨2, some 7, .a false (.mkSlice 4 [(.int .i64 0), (.int .i64 0), (.int .i64 0), (.int .i64 0)] (.t 6)) (some (.cons (.int .i64) (.cons (.int .i64) (.cons (.int .i64) (.one (.int .i64)))))), none, []⟩,
    ⟨3, some 3, .a false (.mv (.t 7)) none, none, []⟩])
  (.seq [3] (.seq [4, 3, 0] (.region [⟨0, some 4, .a false (.mv (.c (.int .i64 0))) none, none, []⟩])
  (.block 0 (.loop [0, 3, 4] 1 (.seq [4, 3, 0] (.seq [11, 4, 3, 0] (.region [⟨0, some 8, .a false (.mv (.t 4)) none, none, []⟩,
    ⟨1, some 9, .a true (.mv (.t 0)) none, none, []⟩,
    ⟨2, some 10, .a false (.len (.t 9)) none, none, []⟩,
    ⟨3, some 11, .a false (.bin .lss (.t 8) (.t 10)) none, none, []⟩])
  (.cond (.t 11) .skip (.exit 0)))
  (.seq [4, 3, 0] (.block 1 (.region [⟨0, some 14, .a true (.mv (.t 3)) none, none, []⟩,
    ⟨1, some 15, .a false (.mv (.t 4)) none, none, []⟩,
    ⟨2, some 16, .a true (.mv (.t 0)) none, none, []⟩,
    ⟨3, some 17, .a false (.mv (.t 4)) none, none, []⟩,
    ⟨4, some 18, .a false (.indexA 4 (.t 16) (.t 17)) none, none, []⟩,
    ⟨5, some 19, .a false (.loadH (some 4) (.t 18)) none, none, []⟩,
    ⟨6, some 20, .call false s_laws_toAction p_laws_toAction D_laws_toAction [(.t 19)], none, []⟩,
    ⟨7, some 21, .a false (.indexA 4 (.t 14) (.t 15)) none, none, []⟩,
    ⟨8, none, .a false (.storeH 4 (.t 21) (.t 20)) none, none, []⟩]))
  (.region [⟨0, some 12, .a false (.mv (.t 4)) none, none, []⟩,
    ⟨1, some 13, .a false (.bin .add (.t 12) (.c (.int .i64 1))) none, none, []⟩,
    ⟨2, some 4, .a false (.mv (.t 13)) none, none, []⟩]))))))
  (.seq [2] (.region [⟨0, some 22, .a false (.mv (.t 3)) none, none, []⟩,
    ⟨1, some 2, .a false (.mv (.t 22)) none, none, []⟩])
  .ret))))
noncomputable def df_laws_toActionS : DFun := ⟨1, 23, 0, false, [.tmp 2], dc_laws_toActionS⟩
noncomputable def pf_laws_toActionS : PFun := df_laws_toActionS.er
noncomputable def f_laws_toActionS : AFun := pf_laws_toActionS.er
@[irreducible] noncomputable def s_laws_toActionS : CallSem := funSem f_laws_toActionS
@[irreducible] noncomputable def p_laws_toActionS : PSem := pfunSem pf_laws_toActionS
theorem sp_laws_toActionS : SoundP s_laws_toActionS p_laws_toActionS := by unfold s_laws_toActionS p_laws_toActionS; exact pfun_sound (f := pf_laws_toActionS) ⟨sp_laws_toAction, trivial⟩
def h_laws_toActionS : List HT := [.one .frz (.sl (.cons (.int .i64) (.cons (.int .i64) (.cons (.int .i64) (.one (.int .i64))))))]
def q_laws_toActionS : QT := .one (.one .own (.sl (.cons (.int .i64) (.cons (.int .i64) (.cons (.int .i64) (.one (.int .i64)))))))
@[irreducible] noncomputable def v_laws_toActionS (x : List (Int × Int × Int × Int)) : List (Int × Int × Int × Int) := fnV df_laws_toActionS h_laws_toActionS q_laws_toActionS x
@[irreducible] noncomputable def ok_laws_toActionS (x : List (Int × Int × Int × Int)) : Prop := fnOk df_laws_toActionS h_laws_toActionS q_laws_toActionS x
noncomputable def D_laws_toActionS : DSem := DSemOf h_laws_toActionS q_laws_toActionS ok_laws_toActionS v_laws_toActionS
theorem ck_laws_toActionS (x : List (Int × Int × Int × Int)) : fnChk df_laws_toActionS h_laws_toActionS q_laws_toActionS x = true := by kernel_rfl
theorem ob_laws_toActionS : AllD df_laws_toActionS.body.obs := ⟨sd_laws_toAction, trivial⟩
theorem st_laws_toActionS : fnSt df_laws_toActionS h_laws_toActionS q_laws_toActionS = true := by kernel_rfl
theorem sd_laws_toActionS : SoundD p_laws_toActionS D_laws_toActionS := by unfold p_laws_toActionS; exact soundD_of (f := df_laws_toActionS) (hs := h_laws_toActionS) (q := q_laws_toActionS) ob_laws_toActionS st_laws_toActionS ck_laws_toActionS (fun x h => by unfold ok_laws_toActionS at h; exact h) (fun x => by unfold v_laws_toActionS; rfl)

noncomputable def dc_laws_toActionSS : DCode :=
  (.seq [0] (.region [⟨0, some 2, .a false (.mv (.c .nils)) none, none, []⟩])
  (.seq [3, 0] (.region [⟨0, some 5, .a true (.mv (.t 0)) none, none, []⟩,
    ⟨1, some 6, .a false (.len (.t 5)) none, none, []⟩,
    ⟨2, some 7, .a false (.mkSlice 1 [.nils] (.t 6)) (some (.one (.sl (.cons (.int .i64) (.cons (.int .i64) (.cons (.int .i64) (.one (.int .i64)))))))), none, []⟩,
    ⟨3, some 3, .a false (.mv (.t 7)) none, none, []⟩])
  (.seq [3] (.seq [4, 3, 0] (.region [⟨0, some 4, .a false (.mv (.c (.int .i64 0))) none, none, []⟩])
  (.block 0 (.loop [0, 3, 4] 1 (.seq [4, 3, 0] (.seq [11, 4, 3, 0] (.region [⟨0, some 8, .a false (.mv (.t 4)) none, none, []⟩,
    ⟨1, some 9, .a true (.mv (.t 0)) none, none, []⟩,
    ⟨2, some 10, .a false (.len (.t 9)) none, none, []⟩,
    ⟨3, some 11, .a false (.bin .lss (.t 8) (.t 10)) none, none, []⟩])
  (.cond (.t 11) .skip (.exit 0)))
  (.seq [4, 3, 0] (.block 1 (.region [⟨0, some 14, .a true (.mv (.t 3)) none, none, []⟩,
    ⟨1, some 15, .a false (.mv (.t 4)) none, none, []⟩,
    ⟨2, some 16, .a true (.mv (.t 0)) none, none, []⟩,
    ⟨3, some 17, .a false (.mv (.t 4)) none, none, []⟩,
    ⟨4, some 18, .a false (.indexA 1 (.t 16) (.t 17)) none, none, []⟩,
    ⟨5, some 19, .a false (.loadH none (.t 18)) none, none, []⟩,
    ⟨6, some 20, .call false s_laws_toActionS p_laws_toActionS D_laws_toActionS [(.t 19)], none, []⟩,
    ⟨7, some 21, .a false (.indexA 1 (.t 14) (.t 15)) none, none, []⟩,
    ⟨8, none, .a false (.storeH 1 (.t 21) (.t 20)) none, none, []⟩]))
  (.region [⟨0, some 12, .a false (.mv (.t 4)) none, none, []⟩,
    ⟨1, some 13, .a false (.bin .add (.t 12) (.c (.int .i64 1))) none, none, []⟩,
    ⟨2, some 4, .a false (.mv (.t 13)) none, none, []⟩]))))))
  (.seq [2] (.region [⟨0, some 22, .a false (.mv (.t 3)) none, none, []⟩,
    ⟨1, some 2, .a false (.mv (.t 22)) none, none, []⟩])
  .ret))))
noncomputable def df_laws_toActionSS : DFun := ⟨1, 23, 0, false, [.tmp 2], dc_laws_toActionSS⟩
noncomputable def pf_laws_toActionSS : PFun := df_laws_toActionSS.er
noncomputable def f_laws_toActionSS : AFun := pf_laws_toActionSS.er
@[irreducible] noncomputable def s_laws_toActionSS : CallSem := funSem f_laws_toActionSS
@[irreducible] noncomputable def p_laws_toActionSS : PSem := pfunSem pf_laws_toActionSS
theorem sp_laws_toActionSS : SoundP s_laws_toActionSS p_laws_toActionSS := by unfold s_laws_toActionSS p_laws_toActionSS; exact pfun_sound (f := pf_laws_toActionSS) ⟨sp_laws_toActionS, trivial⟩
def h_laws_toActionSS : List HT := [.one .frz (.sl (.one (.sl (.cons (.int .i64) (.cons (.int .i64) (.cons (.int .i64) (.one (.int .i64))))))))]
def q_laws_toActionSS : QT := .one (.one .own (.sl (.one (.sl (.cons (.int .i64) (.cons (.int .i64) (.cons (.int .i64) (.one (.int .i64)))))))))
@[irreducible] noncomputable def v_laws_toActionSS (x : List (List (Int × Int × Int × Int))) : List (List (Int × Int × Int × Int)) := fnV df_laws_toActionSS h_laws_toActionSS q_laws_toActionSS x
@[irreducible] noncomputable def ok_laws_toActionSS (x : List (List (Int × Int × Int × Int))) : Prop := fnOk df_laws_toActionSS h_laws_toActionSS q_laws_toActionSS x
noncomputable def D_laws_toActionSS : DSem := DSemOf h_laws_toActionSS q_laws_toActionSS ok_laws_toActionSS v_laws_toActionSS
theorem ck_laws_toActionSS (x : List (List (Int × Int × Int × Int))) : fnChk df_laws_toActionSS h_laws_toActionSS q_laws_toActionSS x = true := by kernel_rfl
theorem ob_laws_toActionSS : AllD df_laws_toActionSS.body.obs := ⟨sd_laws_toActionS, trivial⟩
theorem st_laws_toActionSS : fnSt df_laws_toActionSS h_laws_toActionSS q_laws_toActionSS = true := by kernel_rfl
theorem sd_laws_toActionSS : SoundD p_laws_toActionSS D_laws_toActionSS := by unfold p_laws_toActionSS; exact soundD_of (f := df_laws_toActionSS) (hs := h_laws_toActionSS) (q := q_laws_toActionSS) ob_laws_toActionSS st_laws_toActionSS ck_laws_toActionSS (fun x h => by unfold ok_laws_toActionSS at h; exact h) (fun x => by unfold v_laws_toActionSS; rfl)

noncomputable def dc_laws_toKeymap : DCode :=
  (.seq [2, 1] (.region [⟨0, some 1, .a false (.boxB 0 2 (.t 0)) none, none, []⟩,
    ⟨1, some 2, .a false (.allocB 1 [(.int .i64 0), .nils]) none, none, []⟩])
  (.seq [3, 2, 1] (.region [⟨0, some 3, .a false (.allocB 2 [(.int .i64 0), .nils]) none, none, []⟩])
  (.seq [3, 2, 1] (.region [⟨0, some 4, .a false (.fieldA 0 (.t 1)) none, none, []⟩,
    ⟨1, some 5, .a true (.loadB 0 none (.t 4)) none, none, []⟩,
    ⟨2, some 6, .a false (.fieldA 0 (.t 3)) none, none, []⟩,
    ⟨3, none, .a false (.storeB 2 1 (.t 6) (.t 5)) none, none, []⟩])
  (.seq [3, 2] (.region [⟨0, some 7, .a false (.fieldA 1 (.t 1)) none, none, []⟩,
    ⟨1, some 8, .a false (.loadB 0 none (.t 7)) none, none, []⟩,
    ⟨2, some 9, .call false s_laws_toActionSS p_laws_toActionSS D_laws_toActionSS [(.t 8)], none, []⟩,
    ⟨3, some 10, .a false (.fieldA 1 (.t 3)) none, none, []⟩,
    ⟨4, none, .a false (.storeB 2 1 (.t 10) (.t 9)) none, none, []⟩])
  (.seq [2] (.region [⟨0, some 11, .a true (.loadB 2 (some 2) (.t 3)) none, none, []⟩,
    ⟨1, none, .a false (.storeB 1 2 (.t 2) (.t 11)) none, none, []⟩])
  .ret)))))
noncomputable def df_laws_toKeymap : DFun := ⟨1, 12, 3, false, [.cell 2 (some 2)], dc_laws_toKeymap⟩
noncomputable def pf_laws_toKeymap : PFun := df_laws_toKeymap.er
noncomputable def f_laws_toKeymap : AFun := pf_laws_toKeymap.er
@[irreducible] noncomputable def s_laws_toKeymap : CallSem := funSem f_laws_toKeymap
@[irreducible] noncomputable def p_laws_toKeymap : PSem := pfunSem pf_laws_toKeymap
theorem sp_laws_toKeymap : SoundP s_laws_toKeymap p_laws_toKeymap := by unfold s_laws_toKeymap p_laws_toKeymap; exact pfun_sound (f := pf_laws_toKeymap) ⟨sp_laws_toActionSS, trivial⟩
def h_laws_toKeymap : List HT := [.agg [(.frz, .int .i64), (.frz, .sl (.one (.sl (.cons (.int .i64) (.cons (.int .i64) (.cons (.int .i64) (.one (.int .i64))))))))]]
def q_laws_toKeymap : QT := .one (.agg [(.own, .int .i64), (.own, .sl (.one (.sl (.cons (.int .i64) (.cons (.int .i64) (.cons (.int .i64) (.one (.int .i64))))))))])
@[irreducible] noncomputable def v_laws_toKeymap (x : Int × (List (List (Int × Int × Int × Int)))) : Int × (List (List (Int × Int × Int × Int))) := fnV df_laws_toKeymap h_laws_toKeymap q_laws_toKeymap x
@[irreducible] noncomputable def ok_laws_toKeymap (x : Int × (List (List (Int × Int × Int × Int)))) : Prop := fnOk df_laws_toKeymap h_laws_toKeymap q_laws_toKeymap x
noncomputable def D_laws_toKeymap : DSem := DSemOf h_laws_toKeymap q_laws_toKeymap ok_laws_toKeymap v_laws_toKeymap
theorem ck_laws_toKeymap (x : Int × (List (List (Int × Int × Int × Int)))) : fnChk df_laws_toKeymap h_laws_toKeymap q_laws_toKeymap x = true := by kernel_rfl
theorem ob_laws_toKeymap : AllD df_laws_toKeymap.body.obs := ⟨sd_laws_toActionSS, trivial⟩
theorem st_laws_toKeymap : fnSt df_laws_toKeymap h_laws_toKeymap q_laws_toKeymap = true := by kernel_rfl
theorem sd_laws_toKeymap : SoundD p_laws_toKeymap D_laws_toKeymap := by unfold p_laws_toKeymap; exact soundD_of (f := df_laws_toKeymap) (hs := h_laws_toKeymap) (q := q_laws_toKeymap) ob_laws_toKeymap st_laws_toKeymap ck_laws_toKeymap (fun x h => by unfold ok_laws_toKeymap at h; exact h) (fun x => by unfold v_laws_toKeymap; rfl)

noncomputable def dc_spec_IsKeymap : DCode :=
  (.seq [1] (.region [⟨0, some 1, .a false (.boxB 0 2 (.t 0)) none, none, []⟩,
    ⟨1, some 2, .a false (.mv (.c (.bool false))) none, none, []⟩])
  (.seq [1] (.seq [3, 1] (.region [⟨0, some 3, .a false (.mv (.c (.int .i64 0))) none, none, []⟩])
  (.block 0 (.loop [1, 3] 1 (.seq [3, 1] (.seq [10, 3, 1] (.region [⟨0, some 6, .a false (.mv (.t 3)) none, none, []⟩,
    ⟨1, some 7, .a false (.fieldA 1 (.t 1)) none, none, []⟩,
    ⟨2, some 8, .a false (.loadB 0 none (.t 7)) none, none, []⟩,
    ⟨3, some 9, .a false (.len (.t 8)) none, none, []⟩,
    ⟨4, some 10, .a false (.bin .lss (.t 6) (.t 9)) none, none, []⟩])
  (.cond (.t 10) .skip (.exit 0)))
  (.seq [3, 1] (.block 1 (.seq [3, 1] (.seq [21, 3, 1] (.region [⟨0, some 13, .a false (.fieldA 1 (.t 1)) none, none, []⟩,
    ⟨1, some 14, .a false (.loadB 0 none (.t 13)) none, none, [0]⟩,
    ⟨2, some 15, .a false (.mv (.t 3)) none, none, []⟩,
    ⟨3, some 16, .a false (.indexA 1 (.t 14) (.t 15)) none, none, [0, 1, 2]⟩,
    ⟨4, some 17, .a false (.loadH none (.t 16)) none, none, [0, 1, 2, 3]⟩,
    ⟨5, some 18, .a false (.len (.t 17)) none, none, [0, 1, 2, 3, 4]⟩,
    ⟨6, some 19, .a false (.fieldA 0 (.t 1)) none, none, []⟩,
    ⟨7, some 20, .a false (.loadB 0 none (.t 19)) none, none, [6]⟩,
    ⟨8, some 21, .a false (.bin .neq (.t 18) (.t 20)) none, none, [0, 1, 2, 3, 4, 5, 6, 7]⟩])
  (.cond (.t 21) (.seq [2] (.region [⟨0, some 2, .a false (.mv (.c (.bool false))) none, none, []⟩])
  .ret) .skip))
  (.seq [4, 3, 1] (.region [⟨0, some 4, .a false (.mv (.c (.int .i64 0))) none, none, []⟩])
  (.block 2 (.loop [1, 3, 4] 1 (.seq [4, 3, 1] (.seq [29, 4, 3, 1] (.region [⟨0, some 22, .a false (.mv (.t 4)) none, none, []⟩,
    ⟨1, some 23, .a false (.fieldA 1 (.t 1)) none, none, []⟩,
    ⟨2, some 24, .a false (.loadB 0 none (.t 23)) none, none, []⟩,
    ⟨3, some 25, .a false (.mv (.t 3)) none, none, []⟩,
    ⟨4, some 26, .a false (.indexA 1 (.t 24) (.t 25)) none, none, []⟩,
    ⟨5, some 27, .a false (.loadH none (.t 26)) none, none, []⟩,
    ⟨6, some 28, .a false (.len (.t 27)) none, none, []⟩,
    ⟨7, some 29, .a false (.bin .lss (.t 22) (.t 28)) none, none, []⟩])
  (.cond (.t 29) .skip (.exit 2)))
  (.seq [4, 3, 1] (.block 3 (.seq [5, 4, 3, 1] (.region [⟨0, some 32, .a false (.fieldA 1 (.t 1)) none, none, []⟩,
    ⟨1, some 33, .a false (.loadB 0 none (.t 32)) none, none, []⟩,
    ⟨2, some 34, .a false (.mv (.t 3)) none, none, []⟩,
    ⟨3, some 35, .a false (.indexA 1 (.t 33) (.t 34)) none, none, []⟩,
    ⟨4, some 36, .a false (.loadH none (.t 35)) none, none, []⟩,
    ⟨5, some 37, .a false (.mv (.t 4)) none, none, []⟩,
    ⟨6, some 38, .a false (.indexA 4 (.t 36) (.t 37)) none, none, []⟩,
    ⟨7, some 39, .a true (.loadH (some 4) (.t 38)) none, none, []⟩,
    ⟨8, some 5, .a false (.allocB 1 [(.int .i64 0), (.int .i64 0), (.int .i64 0), (.int .i64 0)]) none, none, []⟩,
    ⟨9, none, .a false (.storeB 1 4 (.t 5) (.t 39)) none, none, []⟩])
  (.seq [64, 4, 3, 1] (.region [⟨0, some 40, .a false (.loadB 1 (some 4) (.t 5)) none, none, []⟩,
    ⟨1, some 41, .call false s_spec_IsAction p_spec_IsAction D_spec_IsAction [(.t 40)], none, []⟩,
    ⟨2, some 42, .a false (.un .not (.t 41)) none, none, []⟩,
    ⟨3, some 43, .a false (.mv (.t 42)) none, none, []⟩,
    ⟨4, some 44, .a false (.fieldA 0 (.t 5)) none, (some (43, false)), []⟩,
    ⟨5, some 45, .a false (.loadB 1 none (.t 44)) none, (some (43, false)), []⟩,
    ⟨6, some 46, .a false (.bin .eql (.t 45) (.c (.int .i64 1))) none, (some (43, false)), []⟩,
    ⟨7, some 47, .a false (.mv (.t 46)) none, (some (43, false)), []⟩,
    ⟨8, some 48, .a false (.mv (.t 3)) none, (some (47, true)), []⟩,
    ⟨9, some 49, .a false (.bin .eql (.t 48) (.c (.int .i64 0))) none, (some (47, true)), []⟩,
    ⟨10, some 50, .a false (.pick (.t 47) (.t 49) (.c (.bool false))) none, (some (43, false)), []⟩,
    ⟨11, some 51, .a false (.pick (.t 43) (.c (.bool true)) (.t 50)) none, none, []⟩,
    ⟨12, some 52, .a false (.mv (.t 51)) none, none, []⟩,
    ⟨13, some 53, .a false (.fieldA 0 (.t 5)) none, (some (52, false)), []⟩,
    ⟨14, some 54, .a false (.loadB 1 none (.t 53)) none, (some (52, false)), []⟩,
    ⟨15, some 55, .a false (.bin .neq (.t 54) (.c (.int .i64 9))) none, (some (52, false)), []⟩,
    ⟨16, some 56, .a false (.mv (.t 55)) none, (some (52, false)), []⟩,
    ⟨17, some 57, .a false (.fieldA 3 (.t 5)) none, (some (56, true)), []⟩,
    ⟨18, some 58, .a false (.loadB 1 none (.t 57)) none, (some (56, true)), []⟩,
    ⟨19, some 59, .a false (.fieldA 1 (.t 1)) none, (some (56, true)), []⟩,
    ⟨20, some 60, .a false (.loadB 0 none (.t 59)) none, (some (56, true)), []⟩,
    ⟨21, some 61, .a false (.len (.t 60)) none, (some (56, true)), []⟩,
    ⟨22, some 62, .a false (.bin .geq (.t 58) (.t 61)) none, (some (56, true)), []⟩,
    ⟨23, some 63, .a false (.pick (.t 56) (.t 62) (.c (.bool false))) none, (some (52, false)), []⟩,
    ⟨24, some 64, .a false (.pick (.t 52) (.c (.bool true)) (.t 63)) none, none, []⟩])
  (.cond (.t 64) (.seq [2] (.region [⟨0, some 2, .a false (.mv (.c (.bool false))) none, none, []⟩])
  .ret) .skip))))
  (.region [⟨0, some 30, .a false (.mv (.t 4)) none, none, []⟩,
    ⟨1, some 31, .a false (.bin .add (.t 30) (.c (.int .i64 1))) none, none, []⟩,
    ⟨2, some 4, .a false (.mv (.t 31)) none, none, []⟩]))))))))
  (.region [⟨0, some 11, .a false (.mv (.t 3)) none, none, []⟩,
    ⟨1, some 12, .a false (.bin .add (.t 11) (.c (.int .i64 1))) none, none, []⟩,
    ⟨2, some 3, .a false (.mv (.t 12)) none, none, []⟩]))))))
  (.seq [2] (.region [⟨0, some 65, .a false (.fieldA 0 (.t 1)) none, none, []⟩,
    ⟨1, some 66, .a false (.loadB 0 none (.t 65)) none, none, []⟩,
    ⟨2, some 67, .call false s_spec_l1In p_spec_l1In D_spec_l1In [(.t 66), (.c (.int .i64 1)), (.c (.int .i64 32))], none, []⟩,
    ⟨3, some 68, .a false (.mv (.t 67)) none, none, []⟩,
    ⟨4, some 69, .a false (.fieldA 1 (.t 1)) none, (some (68, true)), []⟩,
    ⟨5, some 70, .a false (.loadB 0 none (.t 69)) none, (some (68, true)), []⟩,
    ⟨6, some 71, .a false (.len (.t 70)) none, (some (68, true)), []⟩,
    ⟨7, some 72, .call false s_spec_l1In p_spec_l1In D_spec_l1In [(.t 71), (.c (.int .i64 1)), (.c (.int .i64 4))], (some (68, true)), []⟩,
    ⟨8, some 73, .a false (.pick (.t 68) (.t 72) (.c (.bool false))) none, none, []⟩,
    ⟨9, some 2, .a false (.mv (.t 73)) none, none, []⟩])
  .ret)))
noncomputable def df_spec_IsKeymap : DFun := ⟨1, 74, 2, true, [.tmp 2], dc_spec_IsKeymap⟩
noncomputable def pf_spec_IsKeymap : PFun := df_spec_IsKeymap.er
noncomputable def f_spec_IsKeymap : AFun := pf_spec_IsKeymap.er
@[irreducible] noncomputable def s_spec_IsKeymap : CallSem := funSem f_spec_IsKeymap
@[irreducible] noncomputable def p_spec_IsKeymap : PSem := pfunSem pf_spec_IsKeymap
theorem sp_spec_IsKeymap : SoundP s_spec_IsKeymap p_spec_IsKeymap := by unfold s_spec_IsKeymap p_spec_IsKeymap; exact pfun_sound (f := pf_spec_IsKeymap) ⟨sp_spec_IsAction, sp_spec_l1In, sp_spec_l1In, trivial⟩
def h_spec_IsKeymap : List HT := [.agg [(.frz, .int .i64), (.frz, .sl (.one (.sl (.cons (.int .i64) (.cons (.int .i64) (.cons (.int .i64) (.one (.int .i64))))))))]]
def q_spec_IsKeymap : QT := .one (.one .own (.bool))
@[irreducible] noncomputable def v_spec_IsKeymap (x : Int × (List (List (Int × Int × Int × Int)))) : Bool := fnV df_spec_IsKeymap h_spec_IsKeymap q_spec_IsKeymap x
@[irreducible] noncomputable def ok_spec_IsKeymap (x : Int × (List (List (Int × Int × Int × Int)))) : Prop := fnOk df_spec_IsKeymap h_spec_IsKeymap q_spec_IsKeymap x
noncomputable def D_spec_IsKeymap : DSem := DSemOf h_spec_IsKeymap q_spec_IsKeymap ok_spec_IsKeymap v_spec_IsKeymap
theorem ck_spec_IsKeymap (x : Int × (List (List (Int × Int × Int × Int)))) : fnChk df_spec_IsKeymap h_spec_IsKeymap q_spec_IsKeymap x = true := by kernel_rfl
theorem ob_spec_IsKeymap : AllD df_spec_IsKeymap.body.obs := ⟨sd_spec_IsAction, sd_spec_l1In, sd_spec_l1In, trivial⟩
theorem st_spec_IsKeymap : fnSt df_spec_IsKeymap h_spec_IsKeymap q_spec_IsKeymap = true := by kernel_rfl
theorem sd_spec_IsKeymap : SoundD p_spec_IsKeymap D_spec_IsKeymap := by unfold p_spec_IsKeymap; exact soundD_of (f := df_spec_IsKeymap) (hs := h_spec_IsKeymap) (q := q_spec_IsKeymap) ob_spec_IsKeymap st_spec_IsKeymap ck_spec_IsKeymap (fun x h => by unfold ok_spec_IsKeymap at h; exact h) (fun x => by unfold v_spec_IsKeymap; rfl)

noncomputable def dc_impl_IsKeymap : DCode :=
  (.seq [1] (.region [⟨0, some 1, .a false (.boxB 0 2 (.t 0)) none, none, []⟩,
    ⟨1, some 2, .a false (.mv (.c (.bool false))) none, none, []⟩])
  (.seq [1] (.seq [26, 1] (.region [⟨0, some 7, .a false (.fieldA 0 (.t 1)) none, none, []⟩,
    ⟨1, some 8, .a false (.loadB 0 none (.t 7)) none, none, []⟩,
    ⟨2, some 9, .a false (.bin .lss (.t 8) (.c (.int .i64 1))) none, none, []⟩,
    ⟨3, some 10, .a false (.mv (.t 9)) none, none, []⟩,
    ⟨4, some 11, .a false (.fieldA 0 (.t 1)) none, (some (10, false)), []⟩,
    ⟨5, some 12, .a false (.loadB 0 none (.t 11)) none, (some (10, false)), []⟩,
    ⟨6, some 13, .a false (.bin .gtr (.t 12) (.c (.int .i64 32))) none, (some (10, false)), []⟩,
    ⟨7, some 14, .a false (.pick (.t 10) (.c (.bool true)) (.t 13)) none, none, []⟩,
    ⟨8, some 15, .a false (.mv (.t 14)) none, none, []⟩,
    ⟨9, some 16, .a false (.fieldA 1 (.t 1)) none, (some (15, false)), []⟩,
    ⟨10, some 17, .a false (.loadB 0 none (.t 16)) none, (some (15, false)), []⟩,
    ⟨11, some 18, .a false (.len (.t 17)) none, (some (15, false)), []⟩,
    ⟨12, some 19, .a false (.bin .lss (.t 18) (.c (.int .i64 1))) none, (some (15, false)), []⟩,
    ⟨13, some 20, .a false (.pick (.t 15) (.c (.bool true)) (.t 19)) none, none, []⟩,
    ⟨14, some 21, .a false (.mv (.t 20)) none, none, []⟩,
    ⟨15, some 22, .a false (.fieldA 1 (.t 1)) none, (some (21, false)), []⟩,
    ⟨16, some 23, .a false (.loadB 0 none (.t 22)) none, (some (21, false)), []⟩,
    ⟨17, some 24, .a false (.len (.t 23)) none, (some (21, false)), []⟩,
    ⟨18, some 25, .a false (.bin .gtr (.t 24) (.c (.int .i64 4))) none, (some (21, false)), []⟩,
    ⟨19, some 26, .a false (.pick (.t 21) (.c (.bool true)) (.t 25)) none, none, []⟩])
  (.cond (.t 26) (.seq [2] (.region [⟨0, some 2, .a false (.mv (.c (.bool false))) none, none, []⟩])
  .ret) .skip))
  (.seq [] (.seq [30, 29, 28, 1] (.region [⟨0, some 27, .a false (.fieldA 1 (.t 1)) none, none, []⟩,
    ⟨1, some 28, .a false (.loadB 0 none (.t 27)) none, none, []⟩,
    ⟨2, some 29, .a false (.len (.t 28)) none, none, []⟩,
    ⟨3, some 30, .a false (.mv (.c (.int .i64 0))) none, none, []⟩])
  (.block 0 (.loop [1, 28, 29, 30] 1 (.seq [31, 30, 29, 28, 1] (.region [⟨0, some 31, .a false (.bin .lss (.t 30) (.t 29)) none, none, []⟩])
  (.seq [30, 29, 28, 1] (.cond (.t 31) .skip (.exit 0))
  (.seq [30, 29, 28, 1] (.block 1 (.seq [30, 29, 28, 4, 3, 1] (.region [⟨0, some 32, .a false (.mv (.t 30)) none, none, []⟩,
    ⟨1, some 33, .a false (.indexA 1 (.t 28) (.t 30)) none, none, []⟩,
    ⟨2, some 34, .a false (.loadH none (.t 33)) none, none, []⟩,
    ⟨3, some 3, .a false (.mv (.t 32)) none, none, []⟩,
    ⟨4, some 4, .a true (.mv (.t 34)) none, none, []⟩])
  (.seq [30, 29, 28, 4, 3, 1] (.seq [39, 30, 29, 28, 4, 3, 1] (.region [⟨0, some 35, .a true (.mv (.t 4)) none, none, []⟩,
    ⟨1, some 36, .a false (.len (.t 35)) none, none, []⟩,
    ⟨2, some 37, .a false (.fieldA 0 (.t 1)) none, none, []⟩,
    ⟨3, some 38, .a false (.loadB 0 none (.t 37)) none, none, []⟩,
    ⟨4, some 39, .a false (.bin .neq (.t 36) (.t 38)) none, none, []⟩])
  (.cond (.t 39) (.seq [2] (.region [⟨0, some 2, .a false (.mv (.c (.bool false))) none, none, []⟩])
  .ret) .skip))
  (.seq [42, 41, 40, 30, 29, 28, 3, 1] (.region [⟨0, some 40, .a true (.mv (.t 4)) none, none, []⟩,
    ⟨1, some 41, .a false (.len (.t 40)) none, none, []⟩,
    ⟨2, some 42, .a false (.mv (.c (.int .i64 0))) none, none, []⟩])
  (.block 2 (.loop [1, 3, 28, 29, 30, 40, 41, 42] 1 (.seq [43, 42, 41, 40, 30, 29, 28, 3, 1] (.region [⟨0, some 43, .a false (.bin .lss (.t 42) (.t 41)) none, none, []⟩])
  (.seq [42, 41, 40, 30, 29, 28, 3, 1] (.cond (.t 43) .skip (.exit 2))
  (.seq [42, 41, 40, 30, 29, 28, 3, 1] (.block 3 (.seq [42, 41, 40, 30, 29, 28, 6, 3, 1] (.region [⟨0, some 44, .a false (.indexA 4 (.t 40) (.t 42)) none, none, []⟩,
    ⟨1, some 45, .a true (.loadH (some 4) (.t 44)) none, none, []⟩,
    ⟨2, some 6, .a false (.allocB 1 [(.int .i64 0), (.int .i64 0), (.int .i64 0), (.int .i64 0)]) none, none, []⟩,
    ⟨3, none, .a false (.storeB 1 4 (.t 6) (.t 45)) none, none, []⟩])
  (.seq [70, 42, 41, 40, 30, 29, 28, 3, 1] (.region [⟨0, some 46, .a false (.loadB 1 (some 4) (.t 6)) none, none, []⟩,
    ⟨1, some 47, .call false s_impl_IsAction p_impl_IsAction D_impl_IsAction [(.t 46)], none, []⟩,
    ⟨2, some 48, .a false (.un .not (.t 47)) none, none, []⟩,
    ⟨3, some 49, .a false (.mv (.t 48)) none, none, []⟩,
    ⟨4, some 50, .a false (.mv (.t 3)) none, (some (49, false)), []⟩,
    ⟨5, some 51, .a false (.bin .eql (.t 50) (.c (.int .i64 0))) none, (some (49, false)), []⟩,
    ⟨6, some 52, .a false (.mv (.t 51)) none, (some (49, false)), []⟩,
    ⟨7, some 53, .a false (.fieldA 0 (.t 6)) none, (some (52, true)), []⟩,
    ⟨8, some 54, .a false (.loadB 1 none (.t 53)) none, (some (52, true)), []⟩,
    ⟨9, some 55, .a false (.bin .eql (.t 54) (.c (.int .i64 1))) none, (some (52, true)), []⟩,
    ⟨10, some 56, .a false (.pick (.t 52) (.t 55) (.c (.bool false))) none, (some (49, false)), []⟩,
    ⟨11, some 57, .a false (.pick (.t 49) (.c (.bool true)) (.t 56)) none, none, []⟩,
    ⟨12, some 58, .a false (.mv (.t 57)) none, none, []⟩,
    ⟨13, some 59, .a false (.fieldA 0 (.t 6)) none, (some (58, false)), []⟩,
    ⟨14, some 60, .a false (.loadB 1 none (.t 59)) none, (some (58, false)), []⟩,
    ⟨15, some 61, .a false (.bin .neq (.t 60) (.c (.int .i64 9))) none, (some (58, false)), []⟩,
    ⟨16, some 62, .a false (.mv (.t 61)) none, (some (58, false)), []⟩,
    ⟨17, some 63, .a false (.fieldA 3 (.t 6)) none, (some (62, true)), []⟩,
    ⟨18, some 64, .a false (.loadB 1 none (.t 63)) none, (some (62, true)), []⟩,
    ⟨19, some 65, .a false (.fieldA 1 (.t 1)) none, (some (62, true)), []⟩,
    ⟨20, some 66, .a false (.loadB 0 none (.t 65)) none, (some (62, true)), []⟩,
    ⟨21, some 67, .a false (.len (.t 66)) none, (some (62, true)), []⟩,
    ⟨22, some 68, .a false (.bin .geq (.t 64) (.t 67)) none, (some (62, true)), []⟩,
    ⟨23, some 69, .a false (.pick (.t 62) (.t 68) (.c (.bool false))) none, (some (58, false)), []⟩,
    ⟨24, some 70, .a false (.pick (.t 58) (.c (.bool true)) (.t 69)) none, none, []⟩])
  (.cond (.t 70) (.seq [2] (.region [⟨0, some 2, .a false (.mv (.c (.bool false))) none, none, []⟩])
  .ret) .skip))))
  (.region [⟨0, some 71, .a false (.bin .add (.t 42) (.c (.int .i64 1))) none, none, []⟩,
    ⟨1, some 42, .a false (.mv (.t 71)) none, none, []⟩]))))))))))
  (.region [⟨0, some 72, .a false (.bin .add (.t 30) (.c (.int .i64 1))) none, none, []⟩,
    ⟨1, some 30, .a false (.mv (.t 72)) none, none, []⟩])))))))
  (.seq [2] (.region [⟨0, some 2, .a false (.mv (.c (.bool true))) none, none, []⟩])
  .ret))))
noncomputable def df_impl_IsKeymap : DFun := ⟨1, 73, 2, true, [.tmp 2], dc_impl_IsKeymap⟩
noncomputable def pf_impl_IsKeymap : PFun := df_impl_IsKeymap.er
noncomputable def f_impl_IsKeymap : AFun := pf_impl_IsKeymap.er
@[irreducible] noncomputable def s_impl_IsKeymap : CallSem := funSem f_impl_IsKeymap
@[irreducible] noncomputable def p_impl_IsKeymap : PSem := pfunSem pf_impl_IsKeymap
theorem sp_impl_IsKeymap : SoundP s_impl_IsKeymap p_impl_IsKeymap := by unfold s_impl_IsKeymap p_impl_IsKeymap; exact pfun_sound (f := pf_impl_IsKeymap) ⟨sp_impl_IsAction, trivial⟩
def h_impl_IsKeymap : List HT := [.agg [(.frz, .int .i64), (.frz, .sl (.one (.sl (.cons (.int .i64) (.cons (.int .i64) (.cons (.int .i64) (.one (.int .i64))))))))]]
def q_impl_IsKeymap : QT := .one (.one .own (.bool))
@[irreducible] noncomputable def v_impl_IsKeymap (x : Int × (List (List (Int × Int × Int × Int)))) : Bool := fnV df_impl_IsKeymap h_impl_IsKeymap q_impl_IsKeymap x
@[irreducible] noncomputable def ok_impl_IsKeymap (x : Int × (List (List (Int × Int × Int × Int)))) : Prop := fnOk df_impl_IsKeymap h_impl_IsKeymap q_impl_IsKeymap x
noncomputable def D_impl_IsKeymap : DSem := DSemOf h_impl_IsKeymap q_impl_IsKeymap ok_impl_IsKeymap v_impl_IsKeymap
theorem ck_impl_IsKeymap (x : Int × (List (List (Int × Int × Int × Int)))) : fnChk df_impl_IsKeymap h_impl_IsKeymap q_impl_IsKeymap x = true := by kernel_rfl
theorem ob_impl_IsKeymap : AllD df_impl_IsKeymap.body.obs := ⟨sd_impl_IsAction, trivial⟩
theorem st_impl_IsKeymap : fnSt df_impl_IsKeymap h_impl_IsKeymap q_impl_IsKeymap = true := by kernel_rfl
theorem sd_impl_IsKeymap : SoundD p_impl_IsKeymap D_impl_IsKeymap := by unfold p_impl_IsKeymap; exact soundD_of (f := df_impl_IsKeymap) (hs := h_impl_IsKeymap) (q := q_impl_IsKeymap) ob_impl_IsKeymap st_impl_IsKeymap ck_impl_IsKeymap (fun x h => by unfold ok_impl_IsKeymap at h; exact h) (fun x => by unfold v_impl_IsKeymap; rfl)

noncomputable def dc_laws_eqActionS : DCode :=
  (.seq [1, 0] (.region [⟨0, some 4, .a false (.mv (.c (.bool false))) none, none, []⟩])
  (.seq [1, 0] (.seq [10, 1, 0] (.region [⟨0, some 6, .a true (.mv (.t 0)) none, none, []⟩,
    ⟨1, some 7, .a false (.len (.t 6)) none, none, []⟩,
    ⟨2, some 8, .a true (.mv (.t 1)) none, none, []⟩,
    ⟨3, some 9, .a false (.len (.t 8)) none, none, []⟩,
    ⟨4, some 10, .a false (.bin .neq (.t 7) (.t 9)) none, none, []⟩])
  (.cond (.t 10) (.seq [4] (.region [⟨0, some 4, .a false (.mv (.c (.bool false))) none, none, []⟩])
  .ret) .skip))
  (.seq [] (.seq [5, 1, 0] (.region [⟨0, some 5, .a false (.mv (.c (.int .i64 0))) none, none, []⟩])
  (.block 0 (.loop [0, 1, 5] 1 (.seq [5, 1, 0] (.seq [14, 5, 1, 0] (.region [⟨0, some 11, .a false (.mv (.t 5)) none, none, []⟩,
    ⟨1, some 12, .a true (.mv (.t 0)) none, none, []⟩,
    ⟨2, some 13, .a false (.len (.t 12)) none, none, []⟩,
    ⟨3, some 14, .a false (.bin .lss (.t 11) (.t 13)) none, none, []⟩])
  (.cond (.t 14) .skip (.exit 0)))
  (.seq [5, 1, 0] (.block 1 (.seq [26, 5, 1, 0] (.region [⟨0, some 17, .a true (.mv (.t 0)) none, none, []⟩,
    ⟨1, some 18, .a false (.mv (.t 5)) none, none, []⟩,
    ⟨2, some 19, .a false (.indexA 4 (.t 17) (.t 18)) none, none, [0, 1]⟩,
    ⟨3, some 20, .a false (.loadH (some 4) (.t 19)) none, none, [0, 1, 2]⟩,
    ⟨4, some 21, .a true (.mv (.t 1)) none, none, []⟩,
    ⟨5, some 22, .a false (.mv (.t 5)) none, none, []⟩,
    ⟨6, some 23, .a false (.indexA 4 (.t 21) (.t 22)) none, none, [4, 5]⟩,
    ⟨7, some 24, .a false (.loadH (some 4) (.t 23)) none, none, [4, 5, 6]⟩,
    ⟨8, some 25, .call false s_laws_eqAction p_laws_eqAction D_laws_eqAction [(.t 20), (.t 24)], none, [0, 1, 2, 3, 4, 5, 6, 7]⟩,
    ⟨9, some 26, .a false (.un .not (.t 25)) none, none, [0, 1, 2, 3, 4, 5, 6, 7, 8]⟩])
  (.cond (.t 26) (.seq [4] (.region [⟨0, some 4, .a false (.mv (.c (.bool false))) none, none, []⟩])
  .ret) .skip)))
  (.region [⟨0, some 15, .a false (.mv (.t 5)) none, none, []⟩,
    ⟨1, some 16, .a false (.bin .add (.t 15) (.c (.int .i64 1))) none, none, []⟩,
    ⟨2, some 5, .a false (.mv (.t 16)) none, none, []⟩]))))))
  (.seq [4] (.region [⟨0, some 4, .a false (.mv (.c (.bool true))) none, none, []⟩])
  .ret))))
noncomputable def df_laws_eqActionS : DFun := ⟨2, 27, 0, true, [.tmp 4], dc_laws_eqActionS⟩
noncomputable def pf_laws_eqActionS : PFun := df_laws_eqActionS.er
noncomputable def f_laws_eqActionS : AFun := pf_laws_eqActionS.er
@[irreducible] noncomputable def s_laws_eqActionS : CallSem := funSem f_laws_eqActionS
@[irreducible] noncomputable def p_laws_eqActionS : PSem := pfunSem pf_laws_eqActionS
theorem sp_laws_eqActionS : SoundP s_laws_eqActionS p_laws_eqActionS := by unfold s_laws_eqActionS p_laws_eqActionS; exact pfun_sound (f := pf_laws_eqActionS) ⟨sp_laws_eqAction, trivial⟩
def h_laws_eqActionS : List HT := [.one .frz (.sl (.cons (.int .i64) (.cons (.int .i64) (.cons (.int .i64) (.one (.int .i64)))))), .one .frz (.sl (.cons (.int .i64) (.cons (.int .i64) (.cons (.int .i64) (.one (.int .i64))))))]
def q_laws_eqActionS : QT := .one (.one .own (.bool))
@[irreducible] noncomputable def v_laws_eqActionS (x : (List (Int × Int × Int × Int)) × (List (Int × Int × Int × Int))) : Bool := fnV df_laws_eqActionS h_laws_eqActionS q_laws_eqActionS x
@[irreducible] noncomputable def ok_laws_eqActionS (x : (List (Int × Int × Int × Int)) × (List (Int × Int × Int × Int))) : Prop := fnOk df_laws_eqActionS h_laws_eqActionS q_laws_eqActionS x
noncomputable def D_laws_eqActionS : DSem := DSemOf h_laws_eqActionS q_laws_eqActionS ok_laws_eqActionS v_laws_eqActionS
theorem ck_laws_eqActionS (x : (List (Int × Int × Int × Int)) × (List (Int × Int × Int × Int))) : fnChk df_laws_eqActionS h_laws_eqActionS q_laws_eqActionS x = true := by kernel_rfl
theorem ob_laws_eqActionS : AllD df_laws_eqActionS.body.obs := ⟨sd_laws_eqAction, trivial⟩
theorem st_laws_eqActionS : fnSt df_laws_eqActionS h_laws_eqActionS q_laws_eqActionS = true := by kernel_rfl
theorem sd_laws_eqActionS : SoundD p_laws_eqActionS D_laws_eqActionS := by unfold p_laws_eqActionS; exact soundD_of (f := df_laws_eqActionS) (hs := h_laws_eqActionS) (q := q_laws_eqActionS) ob_laws_eqActionS st_laws_eqActionS ck_laws_eqActionS (fun x h => by unfold ok_laws_eqActionS at h; exact h) (fun x => by unfold v_laws_eqActionS; rfl)

noncomputable def dc_laws_eqActionSS : DCode :=
  (.seq [1, 0] (.region [⟨0, some 4, .a false (.mv (.c (.bool false))) none, none, []⟩])
  (.seq [1, 0] (.seq [10, 1, 0] (.region [⟨0, some 6, .a true (.mv (.t 0)) none, none, []⟩,
    ⟨1, some 7, .a false (.len (.t 6)) none, none, []⟩,
    ⟨2, some 8, .a true (.mv (.t 1)) none, none, []⟩,
    ⟨3, some 9, .a false (.len (.t 8)) none, none, []⟩,
    ⟨4, some 10, .a false (.bin .neq (.t 7) (.t 9)) none, none, []⟩])
  (.cond (.t 10) (.seq [4] (.region [⟨0, some 4, .a false (.mv (.c (.bool false))) none, none, []⟩])
  .ret) .skip))
  (.seq [] (.seq [5, 1, 0] (.region [⟨0, some 5, .a false (.mv (.c (.int .i64 0))) none, none, []⟩])
  (.block 0 (.loop [0, 1, 5] 1 (.seq [5, 1, 0] (.seq [14, 5, 1, 0] (.region [⟨0, some 11, .a false (.mv (.t 5)) none, none, []⟩,
    ⟨1, some 12, .a true (.mv (.t 0)) none, none, []⟩,
    ⟨2, some 13, .a false (.len (.t 12)) none, none, []⟩,
    ⟨3, some 14, .a false (.bin .lss (.t 11) (.t 13)) none, none, []⟩])
  (.cond (.t 14) .skip (.exit 0)))
  (.seq [5, 1, 0] (.block 1 (.seq [26, 5, 1, 0] (.region [⟨0, some 17, .a true (.mv (.t 0)) none, none, []⟩,
    ⟨1, some 18, .a false (.mv (.t 5)) none, none, []⟩,
    ⟨2, some 19, .a false (.indexA 1 (.t 17) (.t 18)) none, none, [0, 1]⟩,
    ⟨3, some 20, .a false (.loadH none (.t 19)) none, none, [0, 1, 2]⟩,
    ⟨4, some 21, .a true (.mv (.t 1)) none, none, []⟩,
    ⟨5, some 22, .a false (.mv (.t 5)) none, none, []⟩,
    ⟨6, some 23, .a false (.indexA 1 (.t 21) (.t 22)) none, none, [4, 5]⟩,
    ⟨7, some 24, .a false (.loadH none (.t 23)) none, none, [4, 5, 6]⟩,
    ⟨8, some 25, .call false s_laws_eqActionS p_laws_eqActionS D_laws_eqActionS [(.t 20), (.t 24)], none, [0, 1, 2, 3, 4, 5, 6, 7]⟩,
    ⟨9, some 26, .a false (.un .not (.t 25)) none, none, [0, 1, 2, 3, 4, 5, 6, 7, 8]⟩])
  (.cond (.t 26) (.seq [4] (.region [⟨0, some 4, .a false (.mv (.c (.bool false))) none, none, []⟩])
  .ret) .skip)))
  (.region [⟨0, some 15, .a false (.mv (.t 5)) none, none, []⟩,
    ⟨1, some 16, .a false (.bin .add (.t 15) (.c (.int .i64 1))) none, none, []⟩,
    ⟨2, some 5, .a false (.mv (.t 16)) none, none, []⟩]))))))
  (.seq [4] (.region [⟨0, some 4, .a false (.mv (.c (.bool true))) none, none, []⟩])
  .ret))))
noncomputable def df_laws_eqActionSS : DFun := ⟨2, 27, 0, true, [.tmp 4], dc_laws_eqActionSS⟩
noncomputable def pf_laws_eqActionSS : PFun := df_laws_eqActionSS.er
noncomputable def f_laws_eqActionSS : AFun := pf_laws_eqActionSS.er
@[irreducible] noncomputable def s_laws_eqActionSS : CallSem := funSem f_laws_eqActionSS
@[irreducible] noncomputable def p_laws_eqActionSS : PSem := pfunSem pf_laws_eqActionSS
theorem sp_laws_eqActionSS : SoundP s_laws_eqActionSS p_laws_eqActionSS := by unfold s_laws_eqActionSS p_laws_eqActionSS; exact pfun_sound (f := pf_laws_eqActionSS) ⟨sp_laws_eqActionS, trivial⟩
def h_laws_eqActionSS : List HT := [.one .frz (.sl (.one (.sl (.cons (.int .i64) (.cons (.int .i64) (.cons (.int .i64) (.one (.int .i64)))))))), .one .frz (.sl (.one (.sl (.cons (.int .i64) (.cons (.int .i64) (.cons (.int .i64) (.one (.int .i64))))))))]
def q_laws_eqActionSS : QT := .one (.one .own (.bool))
@[irreducible] noncomputable def v_laws_eqActionSS (x : (List (List (Int × Int × Int × Int))) × (List (List (Int × Int × Int × Int)))) : Bool := fnV df_laws_eqActionSS h_laws_eqActionSS q_laws_eqActionSS x
@[irreducible] noncomputable def ok_laws_eqActionSS (x : (List (List (Int × Int × Int × Int))) × (List (List (Int × Int × Int × Int)))) : Prop := fnOk df_laws_eqActionSS h_laws_eqActionSS q_laws_eqActionSS x
noncomputable def D_laws_eqActionSS : DSem := DSemOf h_laws_eqActionSS q_laws_eqActionSS ok_laws_eqActionSS v_laws_eqActionSS
theorem ck_laws_eqActionSS (x : (List (List (Int × Int × Int × Int))) × (List (List (Int × Int × Int × Int)))) : fnChk df_laws_eqActionSS h_laws_eqActionSS q_laws_eqActionSS x = true := by kernel_rfl
theorem ob_laws_eqActionSS : AllD df_laws_eqActionSS.body.obs := ⟨sd_laws_eqActionS, trivial⟩
theorem st_laws_eqActionSS : fnSt df_laws_eqActionSS h_laws_eqActionSS q_laws_eqActionSS = true := by kernel_rfl
theorem sd_laws_eqActionSS : SoundD p_laws_eqActionSS D_laws_eqActionSS := by unfold p_laws_eqActionSS; exact soundD_of (f := df_laws_eqActionSS) (hs := h_laws_eqActionSS) (q := q_laws_eqActionSS) ob_laws_eqActionSS st_laws_eqActionSS ck_laws_eqActionSS (fun x h => by unfold ok_laws_eqActionSS at h; exact h) (fun x => by unfold v_laws_eqActionSS; rfl)

noncomputable def dc_laws_eqKeymap : DCode :=
  (.seq [3, 2] (.region [⟨0, some 2, .a false (.boxB 0 2 (.t 0)) none, none, []⟩,
    ⟨1, some 3, .a false (.boxB 1 2 (.t 1)) none, none, []⟩,
    ⟨2, some 4, .a false (.mv (.c (.bool false))) none, none, []⟩])
  (.seq [3, 2] (.seq [9, 3, 2] (.region [⟨0, some 5, .a false (.fieldA 0 (.t 2)) none, none, []⟩,
    ⟨1, some 6, .a false (.loadB 0 none (.t 5)) none, none, []⟩,
    ⟨2, some 7, .a false (.fieldA 0 (.t 3)) none, none, []⟩,
    ⟨3, some 8, .a false (.loadB 1 none (.t 7)) none, none, []⟩,
    ⟨4, some 9, .a false (.bin .neq (.t 6) (.t 8)) none, none, []⟩])
  (.cond (.t 9) (.seq [4] (.region [⟨0, some 4, .a false (.mv (.c (.bool false))) none, none, []⟩])
  .ret) .skip))
  (.seq [] (.seq [15] (.region [⟨0, some 10, .a false (.fieldA 1 (.t 2)) none, none, []⟩,
    ⟨1, some 11, .a false (.loadB 0 none (.t 10)) none, none, []⟩,
    ⟨2, some 12, .a false (.fieldA 1 (.t 3)) none, none, []⟩,
    ⟨3, some 13, .a false (.loadB 1 none (.t 12)) none, none, []⟩,
    ⟨4, some 14, .call false s_laws_eqActionSS p_laws_eqActionSS D_laws_eqActionSS [(.t 11), (.t 13)], none, []⟩,
    ⟨5, some 15, .a false (.un .not (.t 14)) none, none, []⟩])
  (.cond (.t 15) (.seq [4] (.region [⟨0, some 4, .a false (.mv (.c (.bool false))) none, none, []⟩])
  .ret) .skip))
  (.seq [4] (.region [⟨0, some 4, .a false (.mv (.c (.bool true))) none, none, []⟩])
  .ret))))
noncomputable def df_laws_eqKeymap : DFun := ⟨2, 16, 2, true, [.tmp 4], dc_laws_eqKeymap⟩
noncomputable def pf_laws_eqKeymap : PFun := df_laws_eqKeymap.er
noncomputable def f_laws_eqKeymap : AFun := pf_laws_eqKeymap.er
@[irreducible] noncomputable def s_laws_eqKeymap : CallSem := funSem f_laws_eqKeymap
@[irreducible] noncomputable def p_laws_eqKeymap : PSem := pfunSem pf_laws_eqKeymap
theorem sp_laws_eqKeymap : SoundP s_laws_eqKeymap p_laws_eqKeymap := by unfold s_laws_eqKeymap p_laws_eqKeymap; exact pfun_sound (f := pf_laws_eqKeymap) ⟨sp_laws_eqActionSS, trivial⟩
def h_laws_eqKeymap : List HT := [.agg [(.frz, .int .i64), (.frz, .sl (.one (.sl (.cons (.int .i64) (.cons (.int .i64) (.cons (.int .i64) (.one (.int .i64))))))))], .agg [(.frz, .int .i64), (.frz, .sl (.one (.sl (.cons (.int .i64) (.cons (.int .i64) (.cons (.int .i64) (.one (.int .i64))))))))]]
def q_laws_eqKeymap : QT := .one (.one .own (.bool))
@[irreducible] noncomputable def v_laws_eqKeymap (x : (Int × (List (List (Int × Int × Int × Int)))) × (Int × (List (List (Int × Int × Int × Int))))) : Bool := fnV df_laws_eqKeymap h_laws_eqKeymap q_laws_eqKeymap x
@[irreducible] noncomputable def ok_laws_eqKeymap (x : (Int × (List (List (Int × Int × Int × Int)))) × (Int × (List (List (Int × Int × Int × Int))))) : Prop := fnOk df_laws_eqKeymap h_laws_eqKeymap q_laws_eqKeymap x
noncomputable def D_laws_eqKeymap : DSem := DSemOf h_laws_eqKeymap q_laws_eqKeymap ok_laws_eqKeymap v_laws_eqKeymap
theorem ck_laws_eqKeymap (x : (Int × (List (List (Int × Int × Int × Int)))) × (Int × (List (List (Int × Int × Int × Int))))) : fnChk df_laws_eqKeymap h_laws_eqKeymap q_laws_eqKeymap x = true := by kernel_rfl
theorem ob_laws_eqKeymap : AllD df_laws_eqKeymap.body.obs := ⟨sd_laws_eqActionSS, trivial⟩
theorem st_laws_eqKeymap : fnSt df_laws_eqKeymap h_laws_eqKeymap q_laws_eqKeymap = true := by kernel_rfl
theorem sd_laws_eqKeymap : SoundD p_laws_eqKeymap D_laws_eqKeymap := by unfold p_laws_eqKeymap; exact soundD_of (f := df_laws_eqKeymap) (hs := h_laws_eqKeymap) (q := q_laws_eqKeymap) ob_laws_eqKeymap st_laws_eqKeymap ck_laws_eqKeymap (fun x h => by unfold ok_laws_eqKeymap at h; exact h) (fun x => by unfold v_laws_eqKeymap; rfl)

noncomputable def dc_laws_FnExactIsKeymap : DCode :=
  (.seq [1] (.region [⟨0, some 1, .a false (.boxB 0 2 (.t 0)) none, none, []⟩,
    ⟨1, some 2, .a false (.mv (.c (.bool false))) none, none, []⟩])
  (.seq [3, 1] (.region [⟨0, some 3, .a false (.mv (.c (.int .i64 1048576))) none, none, []⟩])
  (.seq [3, 1] (.region [⟨0, some 7, .a false (.loadB 0 (some 2) (.t 1)) none, none, []⟩,
    ⟨1, some 8, .a false (.mv (.t 3)) none, none, []⟩,
    ⟨2, some 9, .call false s_laws_szKeymap p_laws_szKeymap D_laws_szKeymap [(.t 7), (.t 8)], none, []⟩,
    ⟨3, some 3, .a false (.mv (.t 9)) none, none, []⟩])
  (.seq [1] (.seq [11, 1] (.region [⟨0, some 10, .a false (.mv (.t 3)) none, none, []⟩,
    ⟨1, some 11, .a false (.bin .lss (.t 10) (.c (.int .i64 0))) none, none, []⟩])
  (.cond (.t 11) (.seq [2] (.region [⟨0, some 2, .a false (.mv (.c (.bool true))) none, none, []⟩])
  .ret) .skip))
  (.seq [4, 1] (.region [⟨0, some 12, .a false (.loadB 0 (some 2) (.t 1)) none, none, []⟩,
    ⟨1, some 13, .call false s_laws_toKeymap p_laws_toKeymap D_laws_toKeymap [(.t 12)], none, []⟩,
    ⟨2, some 14, .call false s_spec_IsKeymap p_spec_IsKeymap D_spec_IsKeymap [(.t 13)], none, []⟩,
    ⟨3, some 4, .a false (.mv (.t 14)) none, none, []⟩])
  (.seq [5, 4, 1] (.region [⟨0, some 15, .a false (.loadB 0 (some 2) (.t 1)) none, none, []⟩,
    ⟨1, some 16, .call false s_laws_toKeymap p_laws_toKeymap D_laws_toKeymap [(.t 15)], none, []⟩,
    ⟨2, some 5, .a false (.allocB 1 [(.int .i64 0), .nils]) none, none, []⟩,
    ⟨3, none, .a false (.storeB 1 2 (.t 5) (.t 16)) none, none, []⟩])
  (.seq [6, 5, 4, 1] (.region [⟨0, some 17, .a false (.loadB 1 (some 2) (.t 5)) none, none, []⟩,
    ⟨1, some 18, .call false s_impl_IsKeymap p_impl_IsKeymap D_impl_IsKeymap [(.t 17)], none, []⟩,
    ⟨2, some 6, .a false (.mv (.t 18)) none, none, []⟩])
  (.seq [5, 1] (.seq [21, 5, 1] (.region [⟨0, some 19, .a false (.mv (.t 6)) none, none, []⟩,
    ⟨1, some 20, .a false (.mv (.t 4)) none, none, []⟩,
    ⟨2, some 21, .a false (.eqB true (.t 19) (.t 20)) none, none, []⟩])
  (.cond (.t 21) (.seq [2] (.region [⟨0, some 2, .a false (.mv (.c (.bool false))) none, none, []⟩])
  .ret) .skip))
  (.seq [] (.seq [26] (.region [⟨0, some 22, .a false (.loadB 1 (some 2) (.t 5)) none, none, []⟩,
    ⟨1, some 23, .a false (.loadB 0 (some 2) (.t 1)) none, none, []⟩,
    ⟨2, some 24, .call false s_laws_toKeymap p_laws_toKeymap D_laws_toKeymap [(.t 23)], none, [1]⟩,
    ⟨3, some 25, .call false s_laws_eqKeymap p_laws_eqKeymap D_laws_eqKeymap [(.t 22), (.t 24)], none, [0, 1, 2]⟩,
    ⟨4, some 26, .a false (.un .not (.t 25)) none, none, [0, 1, 2, 3]⟩])
  (.cond (.t 26) (.seq [2] (.region [⟨0, some 2, .a false (.mv (.c (.bool false))) none, none, []⟩])
  .ret) .skip))
  (.seq [2] (.region [⟨0, some 2, .a false (.mv (.c (.bool true))) none, none, []⟩])
  .ret))))))))))
noncomputable def df_laws_FnExactIsKeymap : DFun := ⟨1, 27, 2, true, [.tmp 2], dc_laws_FnExactIsKeymap⟩
noncomputable def pf_laws_FnExactIsKeymap : PFun := df_laws_FnExactIsKeymap.er
noncomputable def f_laws_FnExactIsKeymap : AFun := pf_laws_FnExactIsKeymap.er
@[irreducible] noncomputable def s_laws_FnExactIsKeymap : CallSem := funSem f_laws_FnExactIsKeymap
@[irreducible] noncomputable def p_laws_FnExactIsKeymap : PSem := pfunSem pf_laws_FnExactIsKeymap
theorem sp_laws_FnExactIsKeymap : SoundP s_laws_FnExactIsKeymap p_laws_FnExactIsKeymap := by unfold s_laws_FnExactIsKeymap p_laws_FnExactIsKeymap; exact pfun_sound (f := pf_laws_FnExactIsKeymap) ⟨sp_laws_szKeymap, sp_laws_toKeymap, sp_spec_IsKeymap, sp_laws_toKeymap, sp_impl_IsKeymap, sp_laws_toKeymap, sp_laws_eqKeymap, trivial⟩
def h_laws_FnExactIsKeymap : List HT := [.agg [(.frz, .int .i64), (.frz, .sl (.one (.sl (.cons (.int .i64) (.cons (.int .i64) (.cons (.int .i64) (.one (.int .i64))))))))]]
def q_laws_FnExactIsKeymap : QT := .one (.one .own (.bool))
@[irreducible] noncomputable def v_laws_FnExactIsKeymap (x : Int × (List (List (Int × Int × Int × Int)))) : Bool := fnV df_laws_FnExactIsKeymap h_laws_FnExactIsKeymap q_laws_FnExactIsKeymap x
@[irreducible] noncomputable def ok_laws_FnExactIsKeymap (x : Int × (List (List (Int × Int × Int × Int)))) : Prop := fnOk df_laws_FnExactIsKeymap h_laws_FnExactIsKeymap q_laws_FnExactIsKeymap x
noncomputable def D_laws_FnExactIsKeymap : DSem := DSemOf h_laws_FnExactIsKeymap q_laws_FnExactIsKeymap ok_laws_FnExactIsKeymap v_laws_FnExactIsKeymap
theorem ck_laws_FnExactIsKeymap (x : Int × (List (List (Int × Int × Int × Int)))) : fnChk df_laws_FnExactIsKeymap h_laws_FnExactIsKeymap q_laws_FnExactIsKeymap x = true := by kernel_rfl
theorem ob_laws_FnExactIsKeymap : AllD df_laws_FnExactIsKeymap.body.obs := ⟨sd_laws_szKeymap, sd_laws_toKeymap, sd_spec_IsKeymap, sd_laws_toKeymap, sd_impl_IsKeymap, sd_laws_toKeymap, sd_laws_eqKeymap, trivial⟩
theorem st_laws_FnExactIsKeymap : fnSt df_laws_FnExactIsKeymap h_laws_FnExactIsKeymap q_laws_FnExactIsKeymap = true := by kernel_rfl
theorem sd_laws_FnExactIsKeymap : SoundD p_laws_FnExactIsKeymap D_laws_FnExactIsKeymap := by unfold p_laws_FnExactIsKeymap; exact soundD_of (f := df_laws_FnExactIsKeymap) (hs := h_laws_FnExactIsKeymap) (q := q_laws_FnExactIsKeymap) ob_laws_FnExactIsKeymap st_laws_FnExactIsKeymap ck_laws_FnExactIsKeymap (fun x h => by unfold ok_laws_FnExactIsKeymap at h; exact h) (fun x => by unfold v_laws_FnExactIsKeymap; rfl)

noncomputable def dc_spec_LayerAt : DCode :=
  (.seq [3, 2, 1] (.region [⟨0, some 3, .a false (.boxB 0 2 (.t 0)) none, none, []⟩,
    ⟨1, some 6, .a false (.mv (.c (.int .i64 0))) none, none, []⟩])
  (.seq [3, 2, 1] (.seq [18, 3, 2, 1] (.region [⟨0, some 8, .a false (.loadB 0 (some 2) (.t 3)) none, none, []⟩,
    ⟨1, some 9, .call false s_spec_IsKeymap p_spec_IsKeymap D_spec_IsKeymap [(.t 8)], none, []⟩,
    ⟨2, some 10, .a false (.un .not (.t 9)) none, none, []⟩,
    ⟨3, some 11, .a false (.mv (.t 10)) none, none, []⟩,
    ⟨4, some 12, .a false (.mv (.t 2)) none, (some (11, false)), []⟩,
    ⟨5, some 13, .a false (.fieldA 0 (.t 3)) none, (some (11, false)), []⟩,
    ⟨6, some 14, .a false (.loadB 0 none (.t 13)) none, (some (11, false)), []⟩,
    ⟨7, some 15, .a false (.bin .sub (.t 14) (.c (.int .i64 1))) none, (some (11, false)), []⟩,
    ⟨8, some 16, .call false s_spec_l1In p_spec_l1In D_spec_l1In [(.t 12), (.c (.int .i64 0)), (.t 15)], (some (11, false)), []⟩,
    ⟨9, some 17, .a false (.un .not (.t 16)) none, (some (11, false)), []⟩,
    ⟨10, some 18, .a false (.pick (.t 11) (.c (.bool true)) (.t 17)) none, none, []⟩])
  (.cond (.t 18) (.seq [6] (.region [⟨0, some 6, .a false (.mv (.c (.int .i64 (-1)))) none, none, []⟩])
  .ret) .skip))
  (.seq [] (.seq [7, 3, 2, 1] (.region [⟨0, some 19, .a false (.fieldA 1 (.t 3)) none, none, []⟩,
    ⟨1, some 20, .a false (.loadB 0 none (.t 19)) none, none, []⟩,
    ⟨2, some 21, .a false (.len (.t 20)) none, none, []⟩,
    ⟨3, some 22, .a false (.bin .sub (.t 21) (.c (.int .i64 1))) none, none, []⟩,
    ⟨4, some 7, .a false (.mv (.t 22)) none, none, []⟩])
  (.block 0 (.loop [1, 2, 3, 7] 1 (.seq [7, 3, 2, 1] (.seq [24, 7, 3, 2, 1] (.region [⟨0, some 23, .a false (.mv (.t 7)) none, none, []⟩,
    ⟨1, some 24, .a false (.bin .gtr (.t 23) (.c (.int .i64 0))) none, none, []⟩])
  (.cond (.t 24) .skip (.exit 0)))
  (.seq [7, 3, 2, 1] (.block 1 (.seq [43, 7, 3, 2, 1] (.region [⟨0, some 27, .a false (.mv (.t 1)) none, none, []⟩,
    ⟨1, some 28, .a false (.mv (.t 7)) none, none, []⟩,
    ⟨2, some 29, .a false (.bin .shr (.t 27) (.t 28)) none, none, []⟩,
    ⟨3, some 30, .a false (.bin .and (.t 29) (.c (.int .i64 1))) none, none, []⟩,
    ⟨4, some 31, .a false (.bin .eql (.t 30) (.c (.int .i64 1))) none, none, []⟩,
    ⟨5, some 32, .a false (.mv (.t 31)) none, none, []⟩,
    ⟨6, some 33, .a false (.fieldA 1 (.t 3)) none, (some (32, true)), []⟩,
    ⟨7, some 34, .a false (.loadB 0 none (.t 33)) none, (some (32, true)), []⟩,
    ⟨8, some 35, .a false (.mv (.t 7)) none, (some (32, true)), []⟩,
    ⟨9, some 36, .a false (.indexA 1 (.t 34) (.t 35)) none, (some (32, true)), []⟩,
    ⟨10, some 37, .a false (.loadH none (.t 36)) none, (some (32, true)), []⟩,
    ⟨11, some 38, .a false (.mv (.t 2)) none, (some (32, true)), []⟩,
    ⟨12, some 39, .a false (.indexA 4 (.t 37) (.t 38)) none, (some (32, true)), []⟩,
    ⟨13, some 40, .a false (.fieldA 0 (.t 39)) none, (some (32, true)), []⟩,
    ⟨14, some 41, .a false (.loadH none (.t 40)) none, (some (32, true)), []⟩,
    ⟨15, some 42, .a false (.bin .neq (.t 41) (.c (.int .i64 1))) none, (some (32, true)), []⟩,
    ⟨16, some 43, .a false (.pick (.t 32) (.t 42) (.c (.bool false))) none, none, []⟩])
  (.cond (.t 43) (.seq [6] (.region [⟨0, some 44, .a false (.mv (.t 7)) none, none, []⟩,
    ⟨1, some 6, .a false (.mv (.t 44)) none, none, []⟩])
  .ret) .skip)))
  (.region [⟨0, some 25, .a false (.mv (.t 7)) none, none, []⟩,
    ⟨1, some 26, .a false (.bin .sub (.t 25) (.c (.int .i64 1))) none, none, []⟩,
    ⟨2, some 7, .a false (.mv (.t 26)) none, none, []⟩]))))))
  (.seq [6] (.region [⟨0, some 6, .a false (.mv (.c (.int .i64 0))) none, none, []⟩])
  .ret))))
noncomputable def df_spec_LayerAt : DFun := ⟨3, 45, 1, true, [.tmp 6], dc_spec_LayerAt⟩
noncomputable def pf_spec_LayerAt : PFun := df_spec_LayerAt.er
noncomputable def f_spec_LayerAt : AFun := pf_spec_LayerAt.er
@[irreducible] noncomputable def s_spec_LayerAt : CallSem := funSem f_spec_LayerAt
@[irreducible] noncomputable def p_spec_LayerAt : PSem := pfunSem pf_spec_LayerAt
theorem sp_spec_LayerAt : SoundP s_spec_LayerAt p_spec_LayerAt := by unfold s_spec_LayerAt p_spec_LayerAt; exact pfun_sound (f := pf_spec_LayerAt) ⟨sp_spec_IsKeymap, sp_spec_l1In, trivial⟩
def h_spec_LayerAt : List HT := [.agg [(.frz, .int .i64), (.frz, .sl (.one (.sl (.cons (.int .i64) (.cons (.int .i64) (.cons (.int .i64) (.one (.int .i64))))))))], .one .frz (.int .i64), .one .frz (.int .i64)]
def q_spec_LayerAt : QT := .one (.one .own (.int .i64))
@[irreducible] noncomputable def v_spec_LayerAt (x : (Int × (List (List (Int × Int × Int × Int)))) × Int × Int) : Int := fnV df_spec_LayerAt h_spec_LayerAt q_spec_LayerAt x
@[irreducible] noncomputable def ok_spec_LayerAt (x : (Int × (List (List (Int × Int × Int × Int)))) × Int × Int) : Prop := fnOk df_spec_LayerAt h_spec_LayerAt q_spec_LayerAt x
noncomputable def D_spec_LayerAt : DSem := DSemOf h_spec_LayerAt q_spec_LayerAt ok_spec_LayerAt v_spec_LayerAt
theorem ck_spec_LayerAt (x : (Int × (List (List (Int × Int × Int × Int)))) × Int × Int) : fnChk df_spec_LayerAt h_spec_LayerAt q_spec_LayerAt x = true := by kernel_rfl
theorem ob_spec_LayerAt : AllD df_spec_LayerAt.body.obs := ⟨sd_spec_IsKeymap, sd_spec_l1In, trivial⟩
theorem st_spec_LayerAt : fnSt df_spec_LayerAt h_spec_LayerAt q_spec_LayerAt = true := by kernel_rfl
theorem sd_spec_LayerAt : SoundD p_spec_LayerAt D_spec_LayerAt := by unfold p_spec_LayerAt; exact soundD_of (f := df_spec_LayerAt) (hs := h_spec_LayerAt) (q := q_spec_LayerAt) ob_spec_LayerAt st_spec_LayerAt ck_spec_LayerAt (fun x h => by unfold ok_spec_LayerAt at h; exact h) (fun x => by unfold v_spec_LayerAt; rfl)

noncomputable def dc_impl_layerAt : DCode :=
  (.seq [3, 2, 1] (.region [⟨0, some 3, .a false (.boxB 0 2 (.t 0)) none, none, []⟩,
    ⟨1, some 6, .a false (.mv (.c (.int .i64 0))) none, none, []⟩])
  (.seq [] (.seq [7, 3, 2, 1] (.region [⟨0, some 8, .a false (.fieldA 1 (.t 3)) none, none, []⟩,
    ⟨1, some 9, .a false (.loadB 0 none (.t 8)) none, none, []⟩,
    ⟨2, some 10, .a false (.len (.t 9)) none, none, []⟩,
    ⟨3, some 11, .a false (.bin .sub (.t 10) (.c (.int .i64 1))) none, none, []⟩,
    ⟨4, some 7, .a false (.mv (.t 11)) none, none, []⟩])
  (.block 0 (.loop [1, 2, 3, 7] 1 (.seq [7, 3, 2, 1] (.seq [13, 7, 3, 2, 1] (.region [⟨0, some 12, .a false (.mv (.t 7)) none, none, []⟩,
    ⟨1, some 13, .a false (.bin .gtr (.t 12) (.c (.int .i64 0))) none, none, []⟩])
  (.cond (.t 13) .skip (.exit 0)))
  (.seq [7, 3, 2, 1] (.block 1 (.seq [31, 7, 3, 2, 1] (.region [⟨0, some 16, .a false (.mv (.t 1)) none, none, []⟩,
    ⟨1, some 17, .a false (.mv (.t 7)) none, none, []⟩,
    ⟨2, some 18, .call false s_impl_bit p_impl_bit D_impl_bit [(.t 16), (.t 17)], none, []⟩,
    ⟨3, some 19, .a false (.bin .eql (.t 18) (.c (.int .i64 1))) none, none, []⟩,
    ⟨4, some 20, .a false (.mv (.t 19)) none, none, []⟩,
    ⟨5, some 21, .a false (.fieldA 1 (.t 3)) none, (some (20, true)), []⟩,
    ⟨6, some 22, .a false (.loadB 0 none (.t 21)) none, (some (20, true)), []⟩,
    ⟨7, some 23, .a false (.mv (.t 7)) none, (some (20, true)), []⟩,
    ⟨8, some 24, .a false (.indexA 1 (.t 22) (.t 23)) none, (some (20, true)), []⟩,
    ⟨9, some 25, .a false (.loadH none (.t 24)) none, (some (20, true)), []⟩,
    ⟨10, some 26, .a false (.mv (.t 2)) none, (some (20, true)), []⟩,
    ⟨11, some 27, .a false (.indexA 4 (.t 25) (.t 26)) none, (some (20, true)), []⟩,
    ⟨12, some 28, .a false (.fieldA 0 (.t 27)) none, (some (20, true)), []⟩,
    ⟨13, some 29, .a false (.loadH none (.t 28)) none, (some (20, true)), []⟩,
    ⟨14, some 30, .a false (.bin .neq (.t 29) (.c (.int .i64 1))) none, (some (20, true)), []⟩,
    ⟨15, some 31, .a false (.pick (.t 20) (.t 30) (.c (.bool false))) none, none, []⟩])
  (.cond (.t 31) (.seq [6] (.region [⟨0, some 32, .a false (.mv (.t 7)) none, none, []⟩,
    ⟨1, some 6, .a false (.mv (.t 32)) none, none, []⟩])
  .ret) .skip)))
  (.region [⟨0, some 14, .a false (.mv (.t 7)) none, none, []⟩,
    ⟨1, some 15, .a false (.bin .sub (.t 14) (.c (.int .i64 1))) none, none, []⟩,
    ⟨2, some 7, .a false (.mv (.t 15)) none, none, []⟩]))))))
  (.seq [6] (.region [⟨0, some 6, .a false (.mv (.c (.int .i64 0))) none, none, []⟩])
  .ret)))
noncomputable def df_impl_layerAt : DFun := ⟨3, 33, 1, true, [.tmp 6], dc_impl_layerAt⟩
noncomputable def pf_impl_layerAt : PFun := df_impl_layerAt.er
noncomputable def f_impl_layerAt : AFun := pf_impl_layerAt.er
@[irreducible] noncomputable def s_impl_layerAt : CallSem := funSem f_impl_layerAt
@[irreducible] noncomputable def p_impl_layerAt : PSem := pfunSem pf_impl_layerAt
theorem sp_impl_layerAt : SoundP s_impl_layerAt p_impl_layerAt := by unfold s_impl_layerAt p_impl_layerAt; exact pfun_sound (f := pf_impl_layerAt) ⟨sp_impl_bit, trivial⟩
def h_impl_layerAt : List HT := [.agg [(.frz, .int .i64), (.frz, .sl (.one (.sl (.cons (.int .i64) (.cons (.int .i64) (.cons (.int .i64) (.one (.int .i64))))))))], .one .frz (.int .i64), .one .frz (.int .i64)]
def q_impl_layerAt : QT := .one (.one .own (.int .i64))
@[irreducible] noncomputable def v_impl_layerAt (x : (Int × (List (List (Int × Int × Int × Int)))) × Int × Int) : Int := fnV df_impl_layerAt h_impl_layerAt q_impl_layerAt x
@[irreducible] noncomputable def ok_impl_layerAt (x : (Int × (List (List (Int × Int × Int × Int)))) × Int × Int) : Prop := fnOk df_impl_layerAt h_impl_layerAt q_impl_layerAt x
noncomputable def D_impl_layerAt : DSem := DSemOf h_impl_layerAt q_impl_layerAt ok_impl_layerAt v_impl_layerAt
theorem ck_impl_layerAt (x : (Int × (List (List (Int × Int × Int × Int)))) × Int × Int) : fnChk df_impl_layerAt h_impl_layerAt q_impl_layerAt x = true := by kernel_rfl
theorem ob_impl_layerAt : AllD df_impl_layerAt.body.obs := ⟨sd_impl_bit, trivial⟩
theorem st_impl_layerAt : fnSt df_impl_layerAt h_impl_layerAt q_impl_layerAt = true := by kernel_rfl
theorem sd_impl_layerAt : SoundD p_impl_layerAt D_impl_layerAt := by unfold p_impl_layerAt; exact soundD_of (f := df_impl_layerAt) (hs := h_impl_layerAt) (q := q_impl_layerAt) ob_impl_layerAt st_impl_layerAt ck_impl_layerAt (fun x h => by unfold ok_impl_layerAt at h; exact h) (fun x => by unfold v_impl_layerAt; rfl)

noncomputable def dc_impl_LayerAt : DCode :=
  (.seq [3, 2, 1] (.region [⟨0, some 3, .a false (.boxB 0 2 (.t 0)) none, none, []⟩,
    ⟨1, some 6, .a false (.mv (.c (.int .i64 0))) none, none, []⟩])
  (.seq [3, 2, 1] (.seq [19, 3, 2, 1] (.region [⟨0, some 7, .a false (.loadB 0 (some 2) (.t 3)) none, none, []⟩,
    ⟨1, some 8, .call false s_impl_IsKeymap p_impl_IsKeymap D_impl_IsKeymap [(.t 7)], none, []⟩,
    ⟨2, some 9, .a false (.un .not (.t 8)) none, none, []⟩,
    ⟨3, some 10, .a false (.mv (.t 9)) none, none, []⟩,
    ⟨4, some 11, .a false (.mv (.t 2)) none, (some (10, false)), []⟩,
    ⟨5, some 12, .a false (.bin .lss (.t 11) (.c (.int .i64 0))) none, (some (10, false)), []⟩,
    ⟨6, some 13, .a false (.pick (.t 10) (.c (.bool true)) (.t 12)) none, none, []⟩,
    ⟨7, some 14, .a false (.mv (.t 13)) none, none, []⟩,
    ⟨8, some 15, .a false (.mv (.t 2)) none, (some (14, false)), []⟩,
    ⟨9, some 16, .a false (.fieldA 0 (.t 3)) none, (some (14, false)), []⟩,
    ⟨10, some 17, .a false (.loadB 0 none (.t 16)) none, (some (14, false)), []⟩,
    ⟨11, some 18, .a false (.bin .geq (.t 15) (.t 17)) none, (some (14, false)), []⟩,
    ⟨12, some 19, .a false (.pick (.t 14) (.c (.bool true)) (.t 18)) none, none, []⟩])
  (.cond (.t 19) (.seq [6] (.region [⟨0, some 6, .a false (.mv (.c (.int .i64 (-1)))) none, none, []⟩])
  .ret) .skip))
  (.seq [6] (.region [⟨0, some 20, .a false (.loadB 0 (some 2) (.t 3)) none, none, []⟩,
    ⟨1, some 21, .a false (.mv (.t 1)) none, none, []⟩,
    ⟨2, some 22, .a false (.mv (.t 2)) none, none, []⟩,
    ⟨3, some 23, .call false s_impl_layerAt p_impl_layerAt D_impl_layerAt [(.t 20), (.t 21), (.t 22)], none, []⟩,
    ⟨4, some 6, .a false (.mv (.t 23)) none, none, []⟩])
  .ret)))
noncomputable def df_impl_LayerAt : DFun := ⟨3, 24, 1, true, [.tmp 6], dc_impl_LayerAt⟩
noncomputable def pf_impl_LayerAt : PFun := df_impl_LayerAt.er
noncomputable def f_impl_LayerAt : AFun := pf_impl_LayerAt.er
@[irreducible] noncomputable def s_impl_LayerAt : CallSem := funSem f_impl_LayerAt
@[irreducible] noncomputable def p_impl_LayerAt : PSem := pfunSem pf_impl_LayerAt
theorem sp_impl_LayerAt : SoundP s_impl_LayerAt p_impl_LayerAt := by unfold s_impl_LayerAt p_impl_LayerAt; exact pfun_sound (f := pf_impl_LayerAt) ⟨sp_impl_IsKeymap, sp_impl_layerAt, trivial⟩
def h_impl_LayerAt : List HT := [.agg [(.frz, .int .i64), (.frz, .sl (.one (.sl (.cons (.int .i64) (.cons (.int .i64) (.cons (.int .i64) (.one (.int .i64))))))))], .one .frz (.int .i64), .one .frz (.int .i64)]
def q_impl_LayerAt : QT := .one (.one .own (.int .i64))
@[irreducible] noncomputable def v_impl_LayerAt (x : (Int × (List (List (Int × Int × Int × Int)))) × Int × Int) : Int := fnV df_impl_LayerAt h_impl_LayerAt q_impl_LayerAt x
@[irreducible] noncomputable def ok_impl_LayerAt (x : (Int × (List (List (Int × Int × Int × Int)))) × Int × Int) : Prop := fnOk df_impl_LayerAt h_impl_LayerAt q_impl_LayerAt x
noncomputable def D_impl_LayerAt : DSem := DSemOf h_impl_LayerAt q_impl_LayerAt ok_impl_LayerAt v_impl_LayerAt
theorem ck_impl_LayerAt (x : (Int × (List (List (Int × Int × Int × Int)))) × Int × Int) : fnChk df_impl_LayerAt h_impl_LayerAt q_impl_LayerAt x = true := by kernel_rfl
theorem ob_impl_LayerAt : AllD df_impl_LayerAt.body.obs := ⟨sd_impl_IsKeymap, sd_impl_layerAt, trivial⟩
theorem st_impl_LayerAt : fnSt df_impl_LayerAt h_impl_LayerAt q_impl_LayerAt = true := by kernel_rfl
theorem sd_impl_LayerAt : SoundD p_impl_LayerAt D_impl_LayerAt := by unfold p_impl_LayerAt; exact soundD_of (f := df_impl_LayerAt) (hs := h_impl_LayerAt) (q := q_impl_LayerAt) ob_impl_LayerAt st_impl_LayerAt ck_impl_LayerAt (fun x h => by unfold ok_impl_LayerAt at h; exact h) (fun x => by unfold v_impl_LayerAt; rfl)

noncomputable def dc_laws_FnExactLayerAt : DCode :=
  (.seq [3, 2, 1] (.region [⟨0, some 3, .a false (.boxB 0 2 (.t 0)) none, none, []⟩,
    ⟨1, some 6, .a false (.mv (.c (.bool false))) none, none, []⟩])
  (.seq [7, 3, 2, 1] (.region [⟨0, some 7, .a false (.mv (.c (.int .i64 1048576))) none, none, []⟩])
  (.seq [7, 3, 2, 1] (.region [⟨0, some 11, .a false (.loadB 0 (some 2) (.t 3)) none, none, []⟩,
    ⟨1, some 12, .a false (.mv (.t 7)) none, none, []⟩,
    ⟨2, some 13, .call false s_laws_szKeymap p_laws_szKeymap D_laws_szKeymap [(.t 11), (.t 12)], none, []⟩,
    ⟨3, some 7, .a false (.mv (.t 13)) none, none, []⟩])
  (.seq [3, 2, 1] (.seq [15, 3, 2, 1] (.region [⟨0, some 14, .a false (.mv (.t 7)) none, none, []⟩,
    ⟨1, some 15, .a false (.bin .lss (.t 14) (.c (.int .i64 0))) none, none, []⟩])
  (.cond (.t 15) (.seq [6] (.region [⟨0, some 6, .a false (.mv (.c (.bool true))) none, none, []⟩])
  .ret) .skip))
  (.seq [8, 3, 2, 1] (.region [⟨0, some 16, .a false (.loadB 0 (some 2) (.t 3)) none, none, []⟩,
    ⟨1, some 17, .call false s_laws_toKeymap p_laws_toKeymap D_laws_toKeymap [(.t 16)], none, []⟩,
    ⟨2, some 18, .a false (.mv (.t 1)) none, none, []⟩,
    ⟨3, some 19, .a false (.mv (.t 2)) none, none, []⟩,
    ⟨4, some 20, .call false s_spec_LayerAt p_spec_LayerAt D_spec_LayerAt [(.t 17), (.t 18), (.t 19)], none, []⟩,
    ⟨5, some 8, .a false (.mv (.t 20)) none, none, []⟩])
  (.seq [9, 8, 3, 2, 1] (.region [⟨0, some 21, .a false (.loadB 0 (some 2) (.t 3)) none, none, []⟩,
    ⟨1, some 22, .call false s_laws_toKeymap p_laws_toKeymap D_laws_toKeymap [(.t 21)], none, []⟩,
    ⟨2, some 9, .a false (.allocB 1 [(.int .i64 0), .nils]) none, none, []⟩,
    ⟨3, none, .a false (.storeB 1 2 (.t 9) (.t 22)) none, none, []⟩])
  (.seq [10, 9, 8, 3] (.region [⟨0, some 23, .a false (.loadB 1 (some 2) (.t 9)) none, none, []⟩,
    ⟨1, some 24, .a false (.mv (.t 1)) none, none, []⟩,
    ⟨2, some 25, .a false (.mv (.t 2)) none, none, []⟩,
    ⟨3, some 26, .call false s_impl_LayerAt p_impl_LayerAt D_impl_LayerAt [(.t 23), (.t 24), (.t 25)], none, []⟩,
    ⟨4, some 10, .a false (.mv (.t 26)) none, none, []⟩])
  (.seq [9, 3] (.seq [29, 9, 3] (.region [⟨0, some 27, .a false (.mv (.t 10)) none, none, []⟩,
    ⟨1, some 28, .a false (.mv (.t 8)) none, none, []⟩,
    ⟨2, some 29, .a false (.bin .neq (.t 27) (.t 28)) none, none, []⟩])
  (.cond (.t 29) (.seq [6] (.region [⟨0, some 6, .a false (.mv (.c (.bool false))) none, none, []⟩])
  .ret) .skip))
  (.seq [] (.seq [34] (.region [⟨0, some 30, .a false (.loadB 1 (some 2) (.t 9)) none, none, []⟩,
    ⟨1, some 31, .a false (.loadB 0 (some 2) (.t 3)) none, none, []⟩,
    ⟨2, some 32, .call false s_laws_toKeymap p_laws_toKeymap D_laws_toKeymap [(.t 31)], none, [1]⟩,
    ⟨3, some 33, .call false s_laws_eqKeymap p_laws_eqKeymap D_laws_eqKeymap [(.t 30), (.t 32)], none, [0, 1, 2]⟩,
    ⟨4, some 34, .a false (.un .not (.t 33)) none, none, [0, 1, 2, 3]⟩])
  (.cond (.t 34) (.seq [6] (.region [⟨0, some 6, .a false (.mv (.c (.bool false))) none, none, []⟩])
  .ret) .skip))
  (.seq [6] (.region [⟨0, some 6, .a false (.mv (.c (.bool true))) none, none, []⟩])
  .ret))))))))))
noncomputable def df_laws_FnExactLayerAt : DFun := ⟨3, 35, 2, true, [.tmp 6], dc_laws_FnExactLayerAt⟩
noncomputable def pf_laws_FnExactLayerAt : PFun := df_laws_FnExactLayerAt.er
noncomputable def f_laws_FnExactLayerAt : AFun := pf_laws_FnExactLayerAt.er
@[irreducible] noncomputable def s_laws_FnExactLayerAt : CallSem := funSem f_laws_FnExactLayerAt
@[irreducible] noncomputable def p_laws_FnExactLayerAt : PSem := pfunSem pf_laws_FnExactLayerAt
theorem sp_laws_FnExactLayerAt : SoundP s_laws_FnExactLayerAt p_laws_FnExactLayerAt := by unfold s_laws_FnExactLayerAt p_laws_FnExactLayerAt; exact pfun_sound (f := pf_laws_FnExactLayerAt) ⟨sp_laws_szKeymap, sp_laws_toKeymap, sp_spec_LayerAt, sp_laws_toKeymap, sp_impl_LayerAt, sp_laws_toKeymap, sp_laws_eqKeymap, trivial⟩
def h_laws_FnExactLayerAt : List HT := [.agg [(.frz, .int .i64), (.frz, .sl (.one (.sl (.cons (.int .i64) (.cons (.int .i64) (.cons (.int .i64) (.one (.int .i64))))))))], .one .frz (.int .i64), .one .frz (.int .i64)]
def q_laws_FnExactLayerAt : QT := .one (.one .own (.bool))
@[irreducible] noncomputable def v_laws_FnExactLayerAt (x : (Int × (List (List (Int × Int × Int × Int)))) × Int × Int) : Bool := fnV df_laws_FnExactLayerAt h_laws_FnExactLayerAt q_laws_FnExactLayerAt x
@[irreducible] noncomputable def ok_laws_FnExactLayerAt (x : (Int × (List (List (Int × Int × Int × Int)))) × Int × Int) : Prop := fnOk df_laws_FnExactLayerAt h_laws_FnExactLayerAt q_laws_FnExactLayerAt x
noncomputable def D_laws_FnExactLayerAt : DSem := DSemOf h_laws_FnExactLayerAt q_laws_FnExactLayerAt ok_laws_FnExactLayerAt v_laws_FnExactLayerAt
theorem ck_laws_FnExactLayerAt (x : (Int × (List (List (Int × Int × Int × Int)))) × Int × Int) : fnChk df_laws_FnExactLayerAt h_laws_FnExactLayerAt q_laws_FnExactLayerAt x = true := by kernel_rfl
theorem ob_laws_FnExactLayerAt : AllD df_laws_FnExactLayerAt.body.obs := ⟨sd_laws_szKeymap, sd_laws_toKeymap, sd_spec_LayerAt, sd_laws_toKeymap, sd_impl_LayerAt, sd_laws_toKeymap, sd_laws_eqKeymap, trivial⟩
theorem st_laws_FnExactLayerAt : fnSt df_laws_FnExactLayerAt h_laws_FnExactLayerAt q_laws_FnExactLayerAt = true := by kernel_rfl
theorem sd_laws_FnExactLayerAt : SoundD p_laws_FnExactLayerAt D_laws_FnExactLayerAt := by unfold p_laws_FnExactLayerAt; exact soundD_of (f := df_laws_FnExactLayerAt) (hs := h_laws_FnExactLayerAt) (q := q_laws_FnExactLayerAt) ob_laws_FnExactLayerAt st_laws_FnExactLayerAt ck_laws_FnExactLayerAt (fun x h => by unfold ok_laws_FnExactLayerAt at h; exact h) (fun x => by unfold v_laws_FnExactLayerAt; rfl)

noncomputable def dc_spec_ActionAt : DCode :=
  (.seq [6, 3, 2, 1] (.region [⟨0, some 3, .a false (.boxB 0 2 (.t 0)) none, none, []⟩,
    ⟨1, some 6, .a false (.allocB 1 [(.int .i64 0), (.int .i64 0), (.int .i64 0), (.int .i64 0)]) none, none, []⟩])
  (.seq [7, 6, 3, 2] (.region [⟨0, some 8, .a false (.loadB 0 (some 2) (.t 3)) none, none, []⟩,
    ⟨1, some 9, .a false (.mv (.t 1)) none, none, []⟩,
    ⟨2, some 10, .a false (.mv (.t 2)) none, none, []⟩,
    ⟨3, some 11, .call false s_spec_LayerAt p_spec_LayerAt D_spec_LayerAt [(.t 8), (.t 9), (.t 10)], none, []⟩,
    ⟨4, some 7, .a false (.mv (.t 11)) none, none, []⟩])
  (.seq [7, 6, 3, 2] (.seq [13, 7, 6, 3, 2] (.region [⟨0, some 12, .a false (.mv (.t 7)) none, none, []⟩,
    ⟨1, some 13, .a false (.bin .lss (.t 12) (.c (.int .i64 0))) none, none, []⟩])
  (.cond (.t 13) (.seq [6] (.region [⟨0, some 14, .a false (.build [(.int .i64 0), (.int .i64 0), (.int .i64 0), (.int .i64 0)] []) none, none, []⟩,
    ⟨1, none, .a false (.storeB 1 4 (.t 6) (.t 14)) none, none, []⟩])
  .ret) .skip))
  (.seq [6] (.region [⟨0, some 15, .a false (.fieldA 1 (.t 3)) none, none, []⟩,
    ⟨1, some 16, .a false (.loadB 0 none (.t 15)) none, none, []⟩,
    ⟨2, some 17, .a false (.mv (.t 7)) none, none, []⟩,
    ⟨3, some 18, .a false (.indexA 1 (.t 16) (.t 17)) none, none, []⟩,
    ⟨4, some 19, .a false (.loadH none (.t 18)) none, none, []⟩,
    ⟨5, some 20, .a false (.mv (.t 2)) none, none, []⟩,
    ⟨6, some 21, .a false (.indexA 4 (.t 19) (.t 20)) none, none, []⟩,
    ⟨7, some 22, .a true (.loadH (some 4) (.t 21)) none, none, []⟩,
    ⟨8, none, .a false (.storeB 1 4 (.t 6) (.t 22)) none, none, []⟩])
  .ret))))
noncomputable def df_spec_ActionAt : DFun := ⟨3, 23, 2, true, [.cell 6 (some 4)], dc_spec_ActionAt⟩
noncomputable def pf_spec_ActionAt : PFun := df_spec_ActionAt.er
noncomputable def f_spec_ActionAt : AFun := pf_spec_ActionAt.er
@[irreducible] noncomputable def s_spec_ActionAt : CallSem := funSem f_spec_ActionAt
@[irreducible] noncomputable def p_spec_ActionAt : PSem := pfunSem pf_spec_ActionAt
theorem sp_spec_ActionAt : SoundP s_spec_ActionAt p_spec_ActionAt := by unfold s_spec_ActionAt p_spec_ActionAt; exact pfun_sound (f := pf_spec_ActionAt) ⟨sp_spec_LayerAt, trivial⟩
def h_spec_ActionAt : List HT := [.agg [(.frz, .int .i64), (.frz, .sl (.one (.sl (.cons (.int .i64) (.cons (.int .i64) (.cons (.int .i64) (.one (.int .i64))))))))], .one .frz (.int .i64), .one .frz (.int .i64)]
def q_spec_ActionAt : QT := .one (.agg [(.own, .int .i64), (.own, .int .i64), (.own, .int .i64), (.own, .int .i64)])
@[irreducible] noncomputable def v_spec_ActionAt (x : (Int × (List (List (Int × Int × Int × Int)))) × Int × Int) : Int × Int × Int × Int := fnV df_spec_ActionAt h_spec_ActionAt q_spec_ActionAt x
@[irreducible] noncomputable def ok_spec_ActionAt (x : (Int × (List (List (Int × Int × Int × Int)))) × Int × Int) : Prop := fnOk df_spec_ActionAt h_spec_ActionAt q_spec_ActionAt x
noncomputable def D_spec_ActionAt : DSem := DSemOf h_spec_ActionAt q_spec_ActionAt ok_spec_ActionAt v_spec_ActionAt
theorem ck_spec_ActionAt (x : (Int × (List (List (Int × Int × Int × Int)))) × Int × Int) : fnChk df_spec_ActionAt h_spec_ActionAt q_spec_ActionAt x = true := by kernel_rfl
theorem ob_spec_ActionAt : AllD df_spec_ActionAt.body.obs := ⟨sd_spec_LayerAt, trivial⟩
theorem st_spec_ActionAt : fnSt df_spec_ActionAt h_spec_ActionAt q_spec_ActionAt = true := by kernel_rfl
theorem sd_spec_ActionAt : SoundD p_spec_ActionAt D_spec_ActionAt := by unfold p_spec_ActionAt; exact soundD_of (f := df_spec_ActionAt) (hs := h_spec_ActionAt) (q := q_spec_ActionAt) ob_spec_ActionAt st_spec_ActionAt ck_spec_ActionAt (fun x h => by unfold ok_spec_ActionAt at h; exact h) (fun x => by unfold v_spec_ActionAt; rfl)

noncomputable def dc_impl_ActionAt : DCode :=
  (.seq [6, 3, 2, 1] (.region [⟨0, some 3, .a false (.boxB 0 2 (.t 0)) none, none, []⟩,
    ⟨1, some 6, .a false (.allocB 1 [(.int .i64 0), (.int .i64 0), (.int .i64 0), (.int .i64 0)]) none, none, []⟩])
  (.seq [7, 6, 3, 2] (.region [⟨0, some 8, .a false (.loadB 0 (some 2) (.t 3)) none, none, []⟩,
    ⟨1, some 9, .a false (.mv (.t 1)) none, none, []⟩,
    ⟨2, some 10, .a false (.mv (.t 2)) none, none, []⟩,
    ⟨3, some 11, .call false s_impl_LayerAt p_impl_LayerAt D_impl_LayerAt [(.t 8), (.t 9), (.t 10)], none, []⟩,
    ⟨4, some 7, .a false (.mv (.t 11)) none, none, []⟩])
  (.seq [7, 6, 3, 2] (.seq [13, 7, 6, 3, 2] (.region [⟨0, some 12, .a false (.mv (.t 7)) none, none, []⟩,
    ⟨1, some 13, .a false (.bin .lss (.t 12) (.c (.int .i64 0))) none, none, []⟩])
  (.cond (.t 13) (.seq [6] (.region [⟨0, some 14, .a false (.build [(.int .i64 0), (.int .i64 0), (.int .i64 0), (.int .i64 0)] []) none, none, []⟩,
    ⟨1, none, .a false (.storeB 1 4 (.t 6) (.t 14)) none, none, []⟩])
  .ret) .skip))
  (.seq [6] (.region [⟨0, some 15, .a false (.fieldA 1 (.t 3)) none, none, []⟩,
    ⟨1, some 16, .a false (.loadB 0 none (.t 15)) none, none, []⟩,
    ⟨2, some 17, .a false (.mv (.t 7)) none, none, []⟩,
    ⟨3, some 18, .a false (.indexA 1 (.t 16) (.t 17)) none, none, []⟩,
    ⟨4, some 19, .a false (.loadH none (.t 18)) none, none, []⟩,
    ⟨5, some 20, .a false (.mv (.t 2)) none, none, []⟩,
    ⟨6, some 21, .a false (.indexA 4 (.t 19) (.t 20)) none, none, []⟩,
    ⟨7, some 22, .a true (.loadH (some 4) (.t 21)) none, none, []⟩,
    ⟨8, none, .a false (.storeB 1 4 (.t 6) (.t 22)) none, none, []⟩])
  .ret))))
noncomputable def df_impl_ActionAt : DFun := ⟨3, 23, 2, true, [.cell 6 (some 4)], dc_impl_ActionAt⟩
noncomputable def pf_impl_ActionAt : PFun := df_impl_ActionAt.er
noncomputable def f_impl_ActionAt : AFun := pf_impl_ActionAt.er
@[irreducible] noncomputable def s_impl_ActionAt : CallSem := funSem f_impl_ActionAt
@[irreducible] noncomputable def p_impl_ActionAt : PSem := pfunSem pf_impl_ActionAt
theorem sp_impl_ActionAt : SoundP s_impl_ActionAt p_impl_ActionAt := by unfold s_impl_ActionAt p_impl_ActionAt; exact pfun_sound (f := pf_impl_ActionAt) ⟨sp_impl_LayerAt, trivial⟩
def h_impl_ActionAt : List HT := [.agg [(.frz, .int .i64), (.frz, .sl (.one (.sl (.cons (.int .i64) (.cons (.int .i64) (.cons (.int .i64) (.one (.int .i64))))))))], .one .frz (.int .i64), .one .frz (.int .i64)]
def q_impl_ActionAt : QT := .one (.agg [(.own, .int .i64), (.own, .int .i64), (.own, .int .i64), (.own, .int .i64)])
@[irreducible] noncomputable def v_impl_ActionAt (x : (Int × (List (List (Int × Int × Int × Int)))) × Int × Int) : Int × Int × Int × Int := fnV df_impl_ActionAt h_impl_ActionAt q_impl_ActionAt x
@[irreducible] noncomputable def ok_impl_ActionAt (x : (Int × (List (List (Int × Int × Int × Int)))) × Int × Int) : Prop := fnOk df_impl_ActionAt h_impl_ActionAt q_impl_ActionAt x
noncomputable def D_impl_ActionAt : DSem := DSemOf h_impl_ActionAt q_impl_ActionAt ok_impl_ActionAt v_impl_ActionAt
theorem ck_impl_ActionAt (x : (Int × (List (List (Int × Int × Int × Int)))) × Int × Int) : fnChk df_impl_ActionAt h_impl_ActionAt q_impl_ActionAt x = true := by kernel_rfl
theorem ob_impl_ActionAt : AllD df_impl_ActionAt.body.obs := ⟨sd_impl_LayerAt, trivial⟩
theorem st_impl_ActionAt : fnSt df_impl_ActionAt h_impl_ActionAt q_impl_ActionAt = true := by kernel_rfl
theorem sd_impl_ActionAt : SoundD p_impl_ActionAt D_impl_ActionAt := by unfold p_impl_ActionAt; exact soundD_of (f := df_impl_ActionAt) (hs := h_impl_ActionAt) (q := q_impl_ActionAt) ob_impl_ActionAt st_impl_ActionAt ck_impl_ActionAt (fun x h => by unfold ok_impl_ActionAt at h; exact h) (fun x => by unfold v_impl_ActionAt; rfl)

noncomputable def dc_laws_FnExactActionAt : DCode :=
  (.seq [3, 2, 1] (.region [⟨0, some 3, .a false (.boxB 0 2 (.t 0)) none, none, []⟩,
    ⟨1, some 6, .a false (.mv (.c (.bool false))) none, none, []⟩])
  (.seq [7, 3, 2, 1] (.region [⟨0, some 7, .a false (.mv (.c (.int .i64 1048576))) none, none, []⟩])
  (.seq [7, 3, 2, 1] (.region [⟨0, some 11, .a false (.loadB 0 (some 2) (.t 3)) none, none, []⟩,
    ⟨1, some 12, .a false (.mv (.t 7)) none, none, []⟩,
    ⟨2, some 13, .call false s_laws_szKeymap p_laws_szKeymap D_laws_szKeymap [(.t 11), (.t 12)], none, []⟩,
    ⟨3, some 7, .a false (.mv (.t 13)) none, none, []⟩])
  (.seq [3, 2, 1] (.seq [15, 3, 2, 1] (.region [⟨0, some 14, .a false (.mv (.t 7)) none, none, []⟩,
    ⟨1, some 15, .a false (.bin .lss (.t 14) (.c (.int .i64 0))) none, none, []⟩])
  (.cond (.t 15) (.seq [6] (.region [⟨0, some 6, .a false (.mv (.c (.bool true))) none, none, []⟩])
  .ret) .skip))
  (.seq [8, 3, 2, 1] (.region [⟨0, some 16, .a false (.loadB 0 (some 2) (.t 3)) none, none, []⟩,
    ⟨1, some 17, .call false s_laws_toKeymap p_laws_toKeymap D_laws_toKeymap [(.t 16)], none, []⟩,
    ⟨2, some 18, .a false (.mv (.t 1)) none, none, []⟩,
    ⟨3, some 19, .a false (.mv (.t 2)) none, none, []⟩,
    ⟨4, some 20, .call false s_spec_ActionAt p_spec_ActionAt D_spec_ActionAt [(.t 17), (.t 18), (.t 19)], none, []⟩,
    ⟨5, some 8, .a false (.allocB 1 [(.int .i64 0), (.int .i64 0), (.int .i64 0), (.int .i64 0)]) none, none, []⟩,
    ⟨6, none, .a false (.storeB 1 4 (.t 8) (.t 20)) none, none, []⟩])
  (.seq [9, 8, 3, 2, 1] (.region [⟨0, some 21, .a false (.loadB 0 (some 2) (.t 3)) none, none, []⟩,
    ⟨1, some 22, .call false s_laws_toKeymap p_laws_toKeymap D_laws_toKeymap [(.t 21)], none, []⟩,
    ⟨2, some 9, .a false (.allocB 2 [(.int .i64 0), .nils]) none, none, []⟩,
    ⟨3, none, .a false (.storeB 2 2 (.t 9) (.t 22)) none, none, []⟩])
  (.seq [10, 9, 8, 3] (.region [⟨0, some 23, .a false (.loadB 2 (some 2) (.t 9)) none, none, []⟩,
    ⟨1, some 24, .a false (.mv (.t 1)) none, none, []⟩,
    ⟨2, some 25, .a false (.mv (.t 2)) none, none, []⟩,
    ⟨3, some 26, .call false s_impl_ActionAt p_impl_ActionAt D_impl_ActionAt [(.t 23), (.t 24), (.t 25)], none, []⟩,
    ⟨4, some 10, .a false (.allocB 3 [(.int .i64 0), (.int .i64 0), (.int .i64 0), (.int .i64 0)]) none, none, []⟩,
    ⟨5, none, .a false (.storeB 3 4 (.t 10) (.t 26)) none, none, []⟩])
  (.seq [9, 3] (.seq [30, 9, 3] (.region [⟨0, some 27, .a false (.loadB 3 (some 4) (.t 10)) none, none, []⟩,
    ⟨1, some 28, .a false (.loadB 1 (some 4) (.t 8)) none, none, []⟩,
    ⟨2, some 29, .call false s_laws_eqAction p_laws_eqAction D_laws_eqAction [(.t 27), (.t 28)], none, []⟩,
    ⟨3, some 30, .a false (.un .not (.t 29)) none, none, []⟩])
  (.cond (.t 30) (.seq [6] (.region [⟨0, some 6, .a false (.mv (.c (.bool false))) none, none, []⟩])
  .ret) .skip))
  (.seq [] (.seq [35] (.region [⟨0, some 31, .a false (.loadB 2 (some 2) (.t 9)) none, none, []⟩,
    ⟨1, some 32, .a false (.loadB 0 (some 2) (.t 3)) none, none, []⟩,
    ⟨2, some 33, .call false s_laws_toKeymap p_laws_toKeymap D_laws_toKeymap [(.t 32)], none, [1]⟩,
    ⟨3, some 34, .call false s_laws_eqKeymap p_laws_eqKeymap D_laws_eqKeymap [(.t 31), (.t 33)], none, [0, 1, 2]⟩,
    ⟨4, some 35, .a false (.un .not (.t 34)) none, none, [0, 1, 2, 3]⟩])
  (.cond (.t 35) (.seq [6] (.region [⟨0, some 6, .a false (.mv (.c (.bool false))) none, none, []⟩])
  .ret) .skip))
  (.seq [6] (.region [⟨0, some 6, .a false (.mv (.c (.bool true))) none, none, []⟩])
  .ret))))))))))
noncomputable def df_laws_FnExactActionAt : DFun := ⟨3, 36, 4, true, [.tmp 6], dc_laws_FnExactActionAt⟩
noncomputable def pf_laws_FnExactActionAt : PFun := df_laws_FnExactActionAt.er
noncomputable def f_laws_FnExactActionAt : AFun := pf_laws_FnExactActionAt.er
@[irreducible] noncomputable def s_laws_FnExactActionAt : CallSem := funSem f_laws_FnExactActionAt
@[irreducible] noncomputable def p_laws_FnExactActionAt : PSem := pfunSem pf_laws_FnExactActionAt
theorem sp_laws_FnExactActionAt : SoundP s_laws_FnExactActionAt p_laws_FnExactActionAt := by unfold s_laws_FnExactActionAt p_laws_FnExactActionAt; exact pfun_sound (f := pf_laws_FnExactActionAt) ⟨sp_laws_szKeymap, sp_laws_toKeymap, sp_spec_ActionAt, sp_laws_toKeymap, sp_impl_ActionAt, sp_laws_eqAction, sp_laws_toKeymap, sp_laws_eqKeymap, trivial⟩
def h_laws_FnExactActionAt : List HT := [.agg [(.frz, .int .i64), (.frz, .sl (.one (.sl (.cons (.int .i64) (.cons (.int .i64) (.cons (.int .i64) (.one (.int .i64))))))))], .one .frz (.int .i64), .one .frz (.int .i64)]
def q_laws_FnExactActionAt : QT := .one (.one .own (.bool))
@[irreducible] noncomputable def v_laws_FnExactActionAt (x : (Int × (List (List (Int × Int × Int × Int)))) × Int × Int) : Bool := fnV df_laws_FnExactActionAt h_laws_FnExactActionAt q_laws_FnExactActionAt x
@[irreducible] noncomputable def ok_laws_FnExactActionAt (x : (Int × (List (List (Int × Int × Int × Int)))) × Int × Int) : Prop := fnOk df_laws_FnExactActionAt h_laws_FnExactActionAt q_laws_FnExactActionAt x
noncomputable def D_laws_FnExactActionAt : DSem := DSemOf h_laws_FnExactActionAt q_laws_FnExactActionAt ok_laws_FnExactActionAt v_laws_FnExactActionAt
theorem ck_laws_FnExactActionAt (x : (Int × (List (List (Int × Int × Int × Int)))) × Int × Int) : fnChk df_laws_FnExactActionAt h_laws_FnExactActionAt q_laws_FnExactActionAt x = true := by kernel_rfl
theorem ob_laws_FnExactActionAt : AllD df_laws_FnExactActionAt.body.obs := ⟨sd_laws_szKeymap, sd_laws_toKeymap, sd_spec_ActionAt, sd_laws_toKeymap, sd_impl_ActionAt, sd_laws_eqAction, sd_laws_toKeymap, sd_laws_eqKeymap, trivial⟩
theorem st_laws_FnExactActionAt : fnSt df_laws_FnExactActionAt h_laws_FnExactActionAt q_laws_FnExactActionAt = true := by kernel_rfl
theorem sd_laws_FnExactActionAt : SoundD p_laws_FnExactActionAt D_laws_FnExactActionAt := by unfold p_laws_FnExactActionAt; exact soundD_of (f := df_laws_FnExactActionAt) (hs := h_laws_FnExactActionAt) (q := q_laws_FnExactActionAt) ob_laws_FnExactActionAt st_laws_FnExactActionAt ck_laws_FnExactActionAt (fun x h => by unfold ok_laws_FnExactActionAt at h; exact h) (fun x => by unfold v_laws_FnExactActionAt; rfl)

end Go.Ag
