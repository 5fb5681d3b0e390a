/-
  FUNCTIONS of the program in the form of the third level, written by program (ag.py) off the seat's own operations. Not trusted: each is checked against the seat's program where it is linked.
-/
import Derived.Test.YtmjjamfkgingcaaLibE
import Derived.KernelRfl
import Derived.Test.YtmjjamfkgingcaaDgP1
namespace Go.Ag
set_option linter.unusedSimpArgs false
set_option linter.unusedVariables false
set_option maxRecDepth 8000

noncomputable def dc_laws_szHeldS : DCode :=
  (.seq [1, 0] (.region [⟨0, some 4, .a false (.mv (.c (.int .i64 0))) none, none, []⟩])
  (.seq [1] (.region [⟨0, some 5, .a false (.mv (.t 1)) none, none, []⟩,
    ⟨1, some 6, .a true (.mv (.t 0)) none, none, []⟩,
    ⟨2, some 7, .a false (.len (.t 6)) none, none, []⟩,
    ⟨3, some 8, .a false (.bin .sub (.t 5) (.t 7)) none, none, []⟩,
    ⟨4, some 1, .a false (.mv (.t 8)) none, none, []⟩])
  (.seq [1] (.seq [10, 1] (.region [⟨0, some 9, .a false (.mv (.t 1)) none, none, []⟩,
    ⟨1, some 10, .a false (.bin .lss (.t 9) (.c (.int .i64 0))) none, none, []⟩])
  (.cond (.t 10) (.seq [4] (.region [⟨0, some 4, .a false (.mv (.c (.int .i64 (-1)))) none, none, []⟩])
  .ret) .skip))
  (.seq [4] (.region [⟨0, some 11, .a false (.mv (.t 1)) none, none, []⟩,
    ⟨1, some 4, .a false (.mv (.t 11)) none, none, []⟩])
  .ret))))
noncomputable def df_laws_szHeldS : DFun := ⟨2, 12, 0, true, [.tmp 4], dc_laws_szHeldS⟩
noncomputable def pf_laws_szHeldS : PFun := df_laws_szHeldS.er
noncomputable def f_laws_szHeldS : AFun := pf_laws_szHeldS.er
@[irreducible] noncomputable def s_laws_szHeldS : CallSem := funSem f_laws_szHeldS
@[irreducible] noncomputable def p_laws_szHeldS : PSem := pfunSem pf_laws_szHeldS
theorem sp_laws_szHeldS : SoundP s_laws_szHeldS p_laws_szHeldS := by unfold s_laws_szHeldS p_laws_szHeldS; exact pfun_sound (f := pf_laws_szHeldS) trivial
def h_laws_szHeldS : List HT := [.one .frz (.sl (.cons (.int .i64) (.cons (.int .i64) (.cons (.int .i64) (.cons (.int .i64) (.one (.int .i64))))))), .one .frz (.int .i64)]
def q_laws_szHeldS : QT := .one (.one .own (.int .i64))
@[irreducible] noncomputable def v_laws_szHeldS (x : (List (Int × Int × Int × Int × Int)) × Int) : Int := fnV df_laws_szHeldS h_laws_szHeldS q_laws_szHeldS x
@[irreducible] noncomputable def ok_laws_szHeldS (x : (List (Int × Int × Int × Int × Int)) × Int) : Prop := fnOk df_laws_szHeldS h_laws_szHeldS q_laws_szHeldS x
noncomputable def D_laws_szHeldS : DSem := DSemOf h_laws_szHeldS q_laws_szHeldS ok_laws_szHeldS v_laws_szHeldS
theorem ck_laws_szHeldS (x : (List (Int × Int × Int × Int × Int)) × Int) : fnChk df_laws_szHeldS h_laws_szHeldS q_laws_szHeldS x = true := by kernel_rfl
theorem ob_laws_szHeldS : AllD df_laws_szHeldS.body.obs := trivial
theorem st_laws_szHeldS : fnSt df_laws_szHeldS h_laws_szHeldS q_laws_szHeldS = true := by kernel_rfl
theorem sd_laws_szHeldS : SoundD p_laws_szHeldS D_laws_szHeldS := by unfold p_laws_szHeldS; exact soundD_of (f := df_laws_szHeldS) (hs := h_laws_szHeldS) (q := q_laws_szHeldS) ob_laws_szHeldS st_laws_szHeldS ck_laws_szHeldS (fun x h => by unfold ok_laws_szHeldS at h; exact h) (fun x => by unfold v_laws_szHeldS; rfl)

noncomputable def dc_laws_toAction : DCode :=
  (.seq [2, 1] (.region [⟨0, some 1, .a false (.boxB 0 4 (.t 0)) none, none, []⟩,
    ⟨1, some 2, .a false (.allocB 1 [(.int .i64 0), (.int .i64 0), (.int .i64 0), (.int .i64 0)]) none, none, []⟩])
  (.seq [3, 2, 1] (.region [⟨0, some 3, .a false (.allocB 2 [(.int .i64 0), (.int .i64 0), (.int .i64 0), (.int .i64 0)]) none, none, []⟩])
  (.seq [3, 2, 1] (.region [⟨0, some 4, .a false (.fieldA 0 (.t 1)) none, none, []⟩,
    ⟨1, some 5, .a true (.loadB 0 none (.t 4)) none, none, []⟩,
    ⟨2, some 6, .a false (.fieldA 0 (.t 3)) none, none, []⟩,
    ⟨3, none, .a false (.storeB 2 1 (.t 6) (.t 5)) none, none, []⟩])
  (.seq [3, 2, 1] (.region [⟨0, some 7, .a false (.fieldA 1 (.t 1)) none, none, []⟩,
    ⟨1, some 8, .a true (.loadB 0 none (.t 7)) none, none, []⟩,
    ⟨2, some 9, .a false (.fieldA 1 (.t 3)) none, none, []⟩,
    ⟨3, none, .a false (.storeB 2 1 (.t 9) (.t 8)) none, none, []⟩])
  (.seq [3, 2, 1] (.region [⟨0, some 10, .a false (.fieldA 2 (.t 1)) none, none, []⟩,
    ⟨1, some 11, .a true (.loadB 0 none (.t 10)) none, none, []⟩,
    ⟨2, some 12, .a false (.fieldA 2 (.t 3)) none, none, []⟩,
    ⟨3, none, .a false (.storeB 2 1 (.t 12) (.t 11)) none, none, []⟩])
  (.seq [3, 2] (.region [⟨0, some 13, .a false (.fieldA 3 (.t 1)) none, none, []⟩,
    ⟨1, some 14, .a true (.loadB 0 none (.t 13)) none, none, []⟩,
    ⟨2, some 15, .a false (.fieldA 3 (.t 3)) none, none, []⟩,
    ⟨3, none, .a false (.storeB 2 1 (.t 15) (.t 14)) none, none, []⟩])
  (.seq [2] (.region [⟨0, some 16, .a true (.loadB 2 (some 4) (.t 3)) none, none, []⟩,
    ⟨1, none, .a false (.storeB 1 4 (.t 2) (.t 16)) none, none, []⟩])
  .ret)))))))
noncomputable def df_laws_toAction : DFun := ⟨1, 17, 3, true, [.cell 2 (some 4)], dc_laws_toAction⟩
noncomputable def pf_laws_toAction : PFun := df_laws_toAction.er
noncomputable def f_laws_toAction : AFun := pf_laws_toAction.er
@[irreducible] noncomputable def s_laws_toAction : CallSem := funSem f_laws_toAction
@[irreducible] noncomputable def p_laws_toAction : PSem := pfunSem pf_laws_toAction
theorem sp_laws_toAction : SoundP s_laws_toAction p_laws_toAction := by unfold s_laws_toAction p_laws_toAction; exact pfun_sound (f := pf_laws_toAction) trivial
def h_laws_toAction : List HT := [.agg [(.frz, .int .i64), (.frz, .int .i64), (.frz, .int .i64), (.frz, .int .i64)]]
def q_laws_toAction : QT := .one (.agg [(.own, .int .i64), (.own, .int .i64), (.own, .int .i64), (.own, .int .i64)])
@[irreducible] noncomputable def v_laws_toAction (x : Int × Int × Int × Int) : Int × Int × Int × Int := fnV df_laws_toAction h_laws_toAction q_laws_toAction x
@[irreducible] noncomputable def ok_laws_toAction (x : Int × Int × Int × Int) : Prop := fnOk df_laws_toAction h_laws_toAction q_laws_toAction x
noncomputable def D_laws_toAction : DSem := DSemOf h_laws_toAction q_laws_toAction ok_laws_toAction v_laws_toAction
theorem ck_laws_toAction (x : Int × Int × Int × Int) : fnChk df_laws_toAction h_laws_toAction q_laws_toAction x = true := by kernel_rfl
theorem ob_laws_toAction : AllD df_laws_toAction.body.obs := trivial
theorem st_laws_toAction : fnSt df_laws_toAction h_laws_toAction q_laws_toAction = true := by kernel_rfl
theorem sd_laws_toAction : SoundD p_laws_toAction D_laws_toAction := by unfold p_laws_toAction; exact soundD_of (f := df_laws_toAction) (hs := h_laws_toAction) (q := q_laws_toAction) ob_laws_toAction st_laws_toAction ck_laws_toAction (fun x h => by unfold ok_laws_toAction at h; exact h) (fun x => by unfold v_laws_toAction; rfl)

noncomputable def dc_laws_toHeld : DCode :=
  (.seq [2, 1] (.region [⟨0, some 1, .a false (.boxB 0 5 (.t 0)) none, none, []⟩,
    ⟨1, some 2, .a false (.allocB 1 [(.int .i64 0), (.int .i64 0), (.int .i64 0), (.int .i64 0), (.int .i64 0)]) none, none, []⟩])
  (.seq [3, 2, 1] (.region [⟨0, some 3, .a false (.allocB 2 [(.int .i64 0), (.int .i64 0), (.int .i64 0), (.int .i64 0), (.int .i64 0)]) none, none, []⟩])
  (.seq [3, 2, 1] (.region [⟨0, some 4, .a false (.fieldA 0 (.t 1)) none, none, []⟩,
    ⟨1, some 5, .a true (.loadB 0 none (.t 4)) none, none, []⟩,
    ⟨2, some 6, .a false (.fieldA 0 (.t 3)) none, none, []⟩,
    ⟨3, none, .a false (.storeB 2 1 (.t 6) (.t 5)) none, none, []⟩])
  (.seq [3, 2] (.region [⟨0, some 7, .a false (.fieldA 1 (.t 1)) none, none, []⟩,
    ⟨1, some 8, .a false (.loadB 0 (some 4) (.t 7)) none, none, []⟩,
    ⟨2, some 9, .call false s_laws_toAction p_laws_toAction D_laws_toAction [(.t 8)], none, []⟩,
    ⟨3, some 10, .a false (.fieldA 1 (.t 3)) none, none, []⟩,
    ⟨4, none, .a false (.storeB 2 4 (.t 10) (.t 9)) none, none, []⟩])
  (.seq [2] (.region [⟨0, some 11, .a true (.loadB 2 (some 5) (.t 3)) none, none, []⟩,
    ⟨1, none, .a false (.storeB 1 5 (.t 2) (.t 11)) none, none, []⟩])
  .ret)))))
noncomputable def df_laws_toHeld : DFun := ⟨1, 12, 3, true, [.cell 2 (some 5)], dc_laws_toHeld⟩
noncomputable def pf_laws_toHeld : PFun := df_laws_toHeld.er
noncomputable def f_laws_toHeld : AFun := pf_laws_toHeld.er
@[irreducible] noncomputable def s_laws_toHeld : CallSem := funSem f_laws_toHeld
@[irreducible] noncomputable def p_laws_toHeld : PSem := pfunSem pf_laws_toHeld
theorem sp_laws_toHeld : SoundP s_laws_toHeld p_laws_toHeld := by unfold s_laws_toHeld p_laws_toHeld; exact pfun_sound (f := pf_laws_toHeld) ⟨sp_laws_toAction, trivial⟩
def h_laws_toHeld : List HT := [.agg [(.frz, .int .i64), (.frz, .int .i64), (.frz, .int .i64), (.frz, .int .i64), (.frz, .int .i64)]]
def q_laws_toHeld : QT := .one (.agg [(.own, .int .i64), (.own, .int .i64), (.own, .int .i64), (.own, .int .i64), (.own, .int .i64)])
@[irreducible] noncomputable def v_laws_toHeld (x : Int × Int × Int × Int × Int) : Int × Int × Int × Int × Int := fnV df_laws_toHeld h_laws_toHeld q_laws_toHeld x
@[irreducible] noncomputable def ok_laws_toHeld (x : Int × Int × Int × Int × Int) : Prop := fnOk df_laws_toHeld h_laws_toHeld q_laws_toHeld x
noncomputable def D_laws_toHeld : DSem := DSemOf h_laws_toHeld q_laws_toHeld ok_laws_toHeld v_laws_toHeld
theorem ck_laws_toHeld (x : Int × Int × Int × Int × Int) : fnChk df_laws_toHeld h_laws_toHeld q_laws_toHeld x = true := by kernel_rfl
theorem ob_laws_toHeld : AllD df_laws_toHeld.body.obs := ⟨sd_laws_toAction, trivial⟩
theorem st_laws_toHeld : fnSt df_laws_toHeld h_laws_toHeld q_laws_toHeld = true := by kernel_rfl
theorem sd_laws_toHeld : SoundD p_laws_toHeld D_laws_toHeld := by unfold p_laws_toHeld; exact soundD_of (f := df_laws_toHeld) (hs := h_laws_toHeld) (q := q_laws_toHeld) ob_laws_toHeld st_laws_toHeld ck_laws_toHeld (fun x h => by unfold ok_laws_toHeld at h; exact h) (fun x => by unfold v_laws_toHeld; rfl)

noncomputable def dc_laws_toHeldS : DCode :=
  (.seq [0] (.region [⟨0, some 2, .a false (.mv (.c .nils)) none, none, []⟩])
  (.seq [3, 0] (.region [⟨0, some 5, .a true (.mv (.t 0)) none, none, []⟩,
    ⟨1, some 6, .a false (.len (.t 5)) none, none, []⟩,
    ⟨2, some 7, .a false (.mkSlice 5 [(.int .i64 0), (.int .i64 0), (.int .i64 0), (.int .i64 0), (.int .i64 0)] (.t 6)) (some (.cons (.int .i64) (.cons (.int .i64) (.cons (.int .i64) (.cons (.int .i64) (.one (.int .i64))))))), none, []⟩,
    ⟨3, some 3, .a false (.mv (.t 7)) none, none, []⟩])
  (.seq [3] (.seq [4, 3, 0] (.region [⟨0, some 4, .a false (.mv (.c (.int .i64 0))) none, none, []⟩])
  (.block 0 (.loop [0, 3, 4] 1 (.seq [4, 3, 0] (.seq [11, 4, 3, 0] (.region [⟨0, some 8, .a false (.mv (.t 4)) none, none, []⟩,
    ⟨1, some 9, .a true (.mv (.t 0)) none, none, []⟩,
    ⟨2, some 10, .a false (.len (.t 9)) none, none, []⟩,
    ⟨3, some 11, .a false (.bin .lss (.t 8) (.t 10)) none, none, []⟩])
  (.cond (.t 11) .skip (.exit 0)))
  (.seq [4, 3, 0] (.block 1 (.region [⟨0, some 14, .a true (.mv (.t 3)) none, none, []⟩,
    ⟨1, some 15, .a false (.mv (.t 4)) none, none, []⟩,
    ⟨2, some 16, .a true (.mv (.t 0)) none, none, []⟩,
    ⟨3, some 17, .a false (.mv (.t 4)) none, none, []⟩,
    ⟨4, some 18, .a false (.indexA 5 (.t 16) (.t 17)) none, none, []⟩,
    ⟨5, some 19, .a false (.loadH (some 5) (.t 18)) none, none, []⟩,
    ⟨6, some 20, .call false s_laws_toHeld p_laws_toHeld D_laws_toHeld [(.t 19)], none, []⟩,
    ⟨7, some 21, .a false (.indexA 5 (.t 14) (.t 15)) none, none, []⟩,
    ⟨8, none, .a false (.storeH 5 (.t 21) (.t 20)) none, none, []⟩]))
  (.region [⟨0, some 12, .a false (.mv (.t 4)) none, none, []⟩,
    ⟨1, some 13, .a false (.bin .add (.t 12) (.c (.int .i64 1))) none, none, []⟩,
    ⟨2, some 4, .a false (.mv (.t 13)) none, none, []⟩]))))))
  (.seq [2] (.region [⟨0, some 22, .a false (.mv (.t 3)) none, none, []⟩,
    ⟨1, some 2, .a false (.mv (.t 22)) none, none, []⟩])
  .ret))))
noncomputable def df_laws_toHeldS : DFun := ⟨1, 23, 0, false, [.tmp 2], dc_laws_toHeldS⟩
noncomputable def pf_laws_toHeldS : PFun := df_laws_toHeldS.er
noncomputable def f_laws_toHeldS : AFun := pf_laws_toHeldS.er
@[irreducible] noncomputable def s_laws_toHeldS : CallSem := funSem f_laws_toHeldS
@[irreducible] noncomputable def p_laws_toHeldS : PSem := pfunSem pf_laws_toHeldS
theorem sp_laws_toHeldS : SoundP s_laws_toHeldS p_laws_toHeldS := by unfold s_laws_toHeldS p_laws_toHeldS; exact pfun_sound (f := pf_laws_toHeldS) ⟨sp_laws_toHeld, trivial⟩
def h_laws_toHeldS : List HT := [.one .frz (.sl (.cons (.int .i64) (.cons (.int .i64) (.cons (.int .i64) (.cons (.int .i64) (.one (.int .i64)))))))]
def q_laws_toHeldS : QT := .one (.one .own (.sl (.cons (.int .i64) (.cons (.int .i64) (.cons (.int .i64) (.cons (.int .i64) (.one (.int .i64))))))))
@[irreducible] noncomputable def v_laws_toHeldS (x : List (Int × Int × Int × Int × Int)) : List (Int × Int × Int × Int × Int) := fnV df_laws_toHeldS h_laws_toHeldS q_laws_toHeldS x
@[irreducible] noncomputable def ok_laws_toHeldS (x : List (Int × Int × Int × Int × Int)) : Prop := fnOk df_laws_toHeldS h_laws_toHeldS q_laws_toHeldS x
noncomputable def D_laws_toHeldS : DSem := DSemOf h_laws_toHeldS q_laws_toHeldS ok_laws_toHeldS v_laws_toHeldS
theorem ck_laws_toHeldS (x : List (Int × Int × Int × Int × Int)) : fnChk df_laws_toHeldS h_laws_toHeldS q_laws_toHeldS x = true := by kernel_rfl
theorem ob_laws_toHeldS : AllD df_laws_toHeldS.body.obs := ⟨sd_laws_toHeld, trivial⟩
theorem st_laws_toHeldS : fnSt df_laws_toHeldS h_laws_toHeldS q_laws_toHeldS = true := by kernel_rfl
theorem sd_laws_toHeldS : SoundD p_laws_toHeldS D_laws_toHeldS := by unfold p_laws_toHeldS; exact soundD_of (f := df_laws_toHeldS) (hs := h_laws_toHeldS) (q := q_laws_toHeldS) ob_laws_toHeldS st_laws_toHeldS ck_laws_toHeldS (fun x h => by unfold ok_laws_toHeldS at h; exact h) (fun x => by unfold v_laws_toHeldS; rfl)

noncomputable def dc_spec_IsTapHold : DCode :=
  (.seq [1] (.region [⟨0, some 1, .a false (.boxB 0 4 (.t 0)) none, none, []⟩,
    ⟨1, some 2, .a false (.mv (.c (.bool false))) none, none, []⟩])
  (.seq [2] (.region [⟨0, some 3, .a false (.loadB 0 (some 4) (.t 1)) none, none, []⟩,
    ⟨1, some 4, .call false s_spec_IsAction p_spec_IsAction D_spec_IsAction [(.t 3)], none, []⟩,
    ⟨2, some 5, .a false (.mv (.t 4)) none, none, []⟩,
    ⟨3, some 6, .a false (.fieldA 0 (.t 1)) none, (some (5, true)), []⟩,
    ⟨4, some 7, .a false (.loadB 0 none (.t 6)) none, (some (5, true)), []⟩,
    ⟨5, some 8, .a false (.bin .eql (.t 7) (.c (.int .i64 6))) none, (some (5, true)), []⟩,
    ⟨6, some 9, .a false (.mv (.t 8)) none, (some (5, true)), []⟩,
    ⟨7, some 10, .a false (.fieldA 0 (.t 1)) none, (some (9, false)), []⟩,
    ⟨8, some 11, .a false (.loadB 0 none (.t 10)) none, (some (9, false)), []⟩,
    ⟨9, some 12, .a false (.bin .eql (.t 11) (.c (.int .i64 7))) none, (some (9, false)), []⟩,
    ⟨10, some 13, .a false (.pick (.t 9) (.c (.bool true)) (.t 12)) none, (some (5, true)), []⟩,
    ⟨11, some 14, .a false (.pick (.t 5) (.t 13) (.c (.bool false))) none, none, []⟩,
    ⟨12, some 2, .a false (.mv (.t 14)) none, none, []⟩])
  .ret))
noncomputable def df_spec_IsTapHold : DFun := ⟨1, 15, 1, true, [.tmp 2], dc_spec_IsTapHold⟩
noncomputable def pf_spec_IsTapHold : PFun := df_spec_IsTapHold.er
noncomputable def f_spec_IsTapHold : AFun := pf_spec_IsTapHold.er
@[irreducible] noncomputable def s_spec_IsTapHold : CallSem := funSem f_spec_IsTapHold
@[irreducible] noncomputable def p_spec_IsTapHold : PSem := pfunSem pf_spec_IsTapHold
theorem sp_spec_IsTapHold : SoundP s_spec_IsTapHold p_spec_IsTapHold := by unfold s_spec_IsTapHold p_spec_IsTapHold; exact pfun_sound (f := pf_spec_IsTapHold) ⟨sp_spec_IsAction, trivial⟩
def h_spec_IsTapHold : List HT := [.agg [(.frz, .int .i64), (.frz, .int .i64), (.frz, .int .i64), (.frz, .int .i64)]]
def q_spec_IsTapHold : QT := .one (.one .own (.bool))
@[irreducible] noncomputable def v_spec_IsTapHold (x : Int × Int × Int × Int) : Bool := fnV df_spec_IsTapHold h_spec_IsTapHold q_spec_IsTapHold x
@[irreducible] noncomputable def ok_spec_IsTapHold (x : Int × Int × Int × Int) : Prop := fnOk df_spec_IsTapHold h_spec_IsTapHold q_spec_IsTapHold x
noncomputable def D_spec_IsTapHold : DSem := DSemOf h_spec_IsTapHold q_spec_IsTapHold ok_spec_IsTapHold v_spec_IsTapHold
theorem ck_spec_IsTapHold (x : Int × Int × Int × Int) : fnChk df_spec_IsTapHold h_spec_IsTapHold q_spec_IsTapHold x = true := by kernel_rfl
theorem ob_spec_IsTapHold : AllD df_spec_IsTapHold.body.obs := ⟨sd_spec_IsAction, trivial⟩
theorem st_spec_IsTapHold : fnSt df_spec_IsTapHold h_spec_IsTapHold q_spec_IsTapHold = true := by kernel_rfl
theorem sd_spec_IsTapHold : SoundD p_spec_IsTapHold D_spec_IsTapHold := by unfold p_spec_IsTapHold; exact soundD_of (f := df_spec_IsTapHold) (hs := h_spec_IsTapHold) (q := q_spec_IsTapHold) ob_spec_IsTapHold st_spec_IsTapHold ck_spec_IsTapHold (fun x h => by unfold ok_spec_IsTapHold at h; exact h) (fun x => by unfold v_spec_IsTapHold; rfl)

noncomputable def dc_spec_IsHeld : DCode :=
  (.seq [0] (.region [⟨0, some 2, .a false (.mv (.c (.bool false))) none, none, []⟩])
  (.seq [3, 0] (.region [⟨0, some 3, .a false (.mv (.c (.int .i64 0))) none, none, []⟩])
  (.seq [] (.seq [4, 3, 0] (.region [⟨0, some 4, .a false (.mv (.c (.int .i64 0))) none, none, []⟩])
  (.block 0 (.loop [0, 3, 4] 1 (.seq [4, 3, 0] (.seq [9, 4, 3, 0] (.region [⟨0, some 6, .a false (.mv (.t 4)) none, none, []⟩,
    ⟨1, some 7, .a true (.mv (.t 0)) none, none, []⟩,
    ⟨2, some 8, .a false (.len (.t 7)) none, none, []⟩,
    ⟨3, some 9, .a false (.bin .lss (.t 6) (.t 8)) none, none, []⟩])
  (.cond (.t 9) .skip (.exit 0)))
  (.seq [4, 3, 0] (.block 1 (.seq [5, 4, 3, 0] (.region [⟨0, some 12, .a true (.mv (.t 0)) none, none, []⟩,
    ⟨1, some 13, .a false (.mv (.t 4)) none, none, []⟩,
    ⟨2, some 14, .a false (.indexA 5 (.t 12) (.t 13)) none, none, []⟩,
    ⟨3, some 15, .a false (.fieldA 1 (.t 14)) none, none, []⟩,
    ⟨4, some 16, .a true (.loadH (some 4) (.t 15)) none, none, []⟩,
    ⟨5, some 5, .a false (.allocB 0 [(.int .i64 0), (.int .i64 0), (.int .i64 0), (.int .i64 0)]) none, none, []⟩,
    ⟨6, none, .a false (.storeB 0 4 (.t 5) (.t 16)) none, none, []⟩])
  (.seq [4, 3, 0] (.seq [48, 4, 3, 0] (.region [⟨0, some 17, .a true (.mv (.t 0)) none, none, []⟩,
    ⟨1, some 18, .a false (.mv (.t 4)) none, none, []⟩,
    ⟨2, some 19, .a false (.indexA 5 (.t 17) (.t 18)) none, none, []⟩,
    ⟨3, some 20, .a false (.fieldA 0 (.t 19)) none, none, []⟩,
    ⟨4, some 21, .a false (.loadH none (.t 20)) none, none, []⟩,
    ⟨5, some 22, .call false s_spec_l1In p_spec_l1In D_spec_l1In [(.t 21), (.c (.int .i64 0)), (.c (.int .i64 31))], none, []⟩,
    ⟨6, some 23, .a false (.un .not (.t 22)) none, none, []⟩,
    ⟨7, some 24, .a false (.mv (.t 23)) none, none, []⟩,
    ⟨8, some 25, .a false (.mv (.t 3)) none, (some (24, false)), []⟩,
    ⟨9, some 26, .a true (.mv (.t 0)) none, (some (24, false)), []⟩,
    ⟨10, some 27, .a false (.mv (.t 4)) none, (some (24, false)), []⟩,
    ⟨11, some 28, .a false (.indexA 5 (.t 26) (.t 27)) none, (some (24, false)), []⟩,
    ⟨12, some 29, .a false (.fieldA 0 (.t 28)) none, (some (24, false)), []⟩,
    ⟨13, some 30, .a false (.loadH none (.t 29)) none, (some (24, false)), []⟩,
    ⟨14, some 31, .a false (.bin .shr (.t 25) (.t 30)) none, (some (24, false)), []⟩,
    ⟨15, some 32, .a false (.bin .and (.t 31) (.c (.int .i64 1))) none, (some (24, false)), []⟩,
    ⟨16, some 33, .a false (.bin .eql (.t 32) (.c (.int .i64 1))) none, (some (24, false)), []⟩,
    ⟨17, some 34, .a false (.pick (.t 24) (.c (.bool true)) (.t 33)) none, none, []⟩,
    ⟨18, some 35, .a false (.mv (.t 34)) none, none, []⟩,
    ⟨19, some 36, .a false (.loadB 0 (some 4) (.t 5)) none, (some (35, false)), []⟩,
    ⟨20, some 37, .call false s_spec_IsAction p_spec_IsAction D_spec_IsAction [(.t 36)], (some (35, false)), []⟩,
    ⟨21, some 38, .a false (.un .not (.t 37)) none, (some (35, false)), []⟩,
    ⟨22, some 39, .a false (.pick (.t 35) (.c (.bool true)) (.t 38)) none, none, []⟩,
    ⟨23, some 40, .a false (.mv (.t 39)) none, none, []⟩,
    ⟨24, some 41, .a false (.fieldA 0 (.t 5)) none, (some (40, false)), []⟩,
    ⟨25, some 42, .a false (.loadB 0 none (.t 41)) none, (some (40, false)), []⟩,
    ⟨26, some 43, .a false (.bin .eql (.t 42) (.c (.int .i64 1))) none, (some (40, false)), []⟩,
    ⟨27, some 44, .a false (.pick (.t 40) (.c (.bool true)) (.t 43)) none, none, []⟩,
    ⟨28, some 45, .a false (.mv (.t 44)) none, none, []⟩,
    ⟨29, some 46, .a false (.loadB 0 (some 4) (.t 5)) none, (some (45, false)), []⟩,
    ⟨30, some 47, .call false s_spec_IsTapHold p_spec_IsTapHold D_spec_IsTapHold [(.t 46)], (some (45, false)), []⟩,
    ⟨31, some 48, .a false (.pick (.t 45) (.c (.bool true)) (.t 47)) none, none, []⟩])
  (.cond (.t 48) (.seq [2] (.region [⟨0, some 2, .a false (.mv (.c (.bool false))) none, none, []⟩])
  .ret) .skip))
  (.region [⟨0, some 49, .a false (.mv (.t 3)) none, none, []⟩,
    ⟨1, some 50, .a true (.mv (.t 0)) none, none, []⟩,
    ⟨2, some 51, .a false (.mv (.t 4)) none, none, []⟩,
    ⟨3, some 52, .a false (.indexA 5 (.t 50) (.t 51)) none, none, []⟩,
    ⟨4, some 53, .a false (.fieldA 0 (.t 52)) none, none, []⟩,
    ⟨5, some 54, .a false (.loadH none (.t 53)) none, none, []⟩,
    ⟨6, some 55, .a false (.bin .shl (.c (.int .i64 1)) (.t 54)) none, none, []⟩,
    ⟨7, some 56, .a false (.bin .or (.t 49) (.t 55)) none, none, []⟩,
    ⟨8, some 3, .a false (.mv (.t 56)) none, none, []⟩]))))
  (.region [⟨0, some 10, .a false (.mv (.t 4)) none, none, []⟩,
    ⟨1, some 11, .a false (.bin .add (.t 10) (.c (.int .i64 1))) none, none, []⟩,
    ⟨2, some 4, .a false (.mv (.t 11)) none, none, []⟩]))))))
  (.seq [2] (.region [⟨0, some 2, .a false (.mv (.c (.bool true))) none, none, []⟩])
  .ret))))
noncomputable def df_spec_IsHeld : DFun := ⟨1, 57, 1, true, [.tmp 2], dc_spec_IsHeld⟩
noncomputable def pf_spec_IsHeld : PFun := df_spec_IsHeld.er
noncomputable def f_spec_IsHeld : AFun := pf_spec_IsHeld.er
@[irreducible] noncomputable def s_spec_IsHeld : CallSem := funSem f_spec_IsHeld
@[irreducible] noncomputable def p_spec_IsHeld : PSem := pfunSem pf_spec_IsHeld
theorem sp_spec_IsHeld : SoundP s_spec_IsHeld p_spec_IsHeld := by unfold s_spec_IsHeld p_spec_IsHeld; exact pfun_sound (f := pf_spec_IsHeld) ⟨sp_spec_l1In, sp_spec_IsAction, sp_spec_IsTapHold, trivial⟩
def h_spec_IsHeld : List HT := [.one .frz (.sl (.cons (.int .i64) (.cons (.int .i64) (.cons (.int .i64) (.cons (.int .i64) (.one (.int .i64)))))))]
def q_spec_IsHeld : QT := .one (.one .own (.bool))
@[irreducible] noncomputable def v_spec_IsHeld (x : List (Int × Int × Int × Int × Int)) : Bool := fnV df_spec_IsHeld h_spec_IsHeld q_spec_IsHeld x
@[irreducible] noncomputable def ok_spec_IsHeld (x : List (Int × Int × Int × Int × Int)) : Prop := fnOk df_spec_IsHeld h_spec_IsHeld q_spec_IsHeld x
noncomputable def D_spec_IsHeld : DSem := DSemOf h_spec_IsHeld q_spec_IsHeld ok_spec_IsHeld v_spec_IsHeld
theorem ck_spec_IsHeld (x : List (Int × Int × Int × Int × Int)) : fnChk df_spec_IsHeld h_spec_IsHeld q_spec_IsHeld x = true := by kernel_rfl
theorem ob_spec_IsHeld : AllD df_spec_IsHeld.body.obs := ⟨sd_spec_l1In, sd_spec_IsAction, sd_spec_IsTapHold, trivial⟩
theorem st_spec_IsHeld : fnSt df_spec_IsHeld h_spec_IsHeld q_spec_IsHeld = true := by kernel_rfl
theorem sd_spec_IsHeld : SoundD p_spec_IsHeld D_spec_IsHeld := by unfold p_spec_IsHeld; exact soundD_of (f := df_spec_IsHeld) (hs := h_spec_IsHeld) (q := q_spec_IsHeld) ob_spec_IsHeld st_spec_IsHeld ck_spec_IsHeld (fun x h => by unfold ok_spec_IsHeld at h; exact h) (fun x => by unfold v_spec_IsHeld; rfl)

noncomputable def dc_impl_bit : DCode :=
  (.seq [1, 0] (.region [⟨0, some 4, .a false (.mv (.c (.int .i64 0))) none, none, []⟩])
  (.seq [4] (.region [⟨0, some 5, .a false (.mv (.t 0)) none, none, []⟩,
    ⟨1, some 6, .a false (.mv (.t 1)) none, none, []⟩,
    ⟨2, some 7, .a false (.bin .shr (.t 5) (.t 6)) none, none, []⟩,
    ⟨3, some 8, .a false (.bin .and (.t 7) (.c (.int .i64 1))) none, none, []⟩,
    ⟨4, some 4, .a false (.mv (.t 8)) none, none, []⟩])
  .ret))
noncomputable def df_impl_bit : DFun := ⟨2, 9, 0, true, [.tmp 4], dc_impl_bit⟩
noncomputable def pf_impl_bit : PFun := df_impl_bit.er
noncomputable def f_impl_bit : AFun := pf_impl_bit.er
@[irreducible] noncomputable def s_impl_bit : CallSem := funSem f_impl_bit
@[irreducible] noncomputable def p_impl_bit : PSem := pfunSem pf_impl_bit
theorem sp_impl_bit : SoundP s_impl_bit p_impl_bit := by unfold s_impl_bit p_impl_bit; exact pfun_sound (f := pf_impl_bit) trivial
def h_impl_bit : List HT := [.one .frz (.int .i64), .one .frz (.int .i64)]
def q_impl_bit : QT := .one (.one .own (.int .i64))
@[irreducible] noncomputable def v_impl_bit (x : Int × Int) : Int := fnV df_impl_bit h_impl_bit q_impl_bit x
@[irreducible] noncomputable def ok_impl_bit (x : Int × Int) : Prop := fnOk df_impl_bit h_impl_bit q_impl_bit x
noncomputable def D_impl_bit : DSem := DSemOf h_impl_bit q_impl_bit ok_impl_bit v_impl_bit
theorem ck_impl_bit (x : Int × Int) : fnChk df_impl_bit h_impl_bit q_impl_bit x = true := by kernel_rfl
theorem ob_impl_bit : AllD df_impl_bit.body.obs := trivial
theorem st_impl_bit : fnSt df_impl_bit h_impl_bit q_impl_bit = true := by kernel_rfl
theorem sd_impl_bit : SoundD p_impl_bit D_impl_bit := by unfold p_impl_bit; exact soundD_of (f := df_impl_bit) (hs := h_impl_bit) (q := q_impl_bit) ob_impl_bit st_impl_bit ck_impl_bit (fun x h => by unfold ok_impl_bit at h; exact h) (fun x => by unfold v_impl_bit; rfl)

noncomputable def dc_impl_IsHeld : DCode :=
  (.seq [0] (.region [⟨0, some 2, .a false (.mv (.c (.bool false))) none, none, []⟩])
  (.seq [3, 0] (.region [⟨0, some 3, .a false (.mv (.c (.int .i64 0))) none, none, []⟩])
  (.seq [] (.seq [8, 7, 6, 3] (.region [⟨0, some 6, .a true (.mv (.t 0)) none, none, []⟩,
    ⟨1, some 7, .a false (.len (.t 6)) none, none, []⟩,
    ⟨2, some 8, .a false (.mv (.c (.int .i64 0))) none, none, []⟩])
  (.block 0 (.loop [3, 6, 7, 8] 1 (.seq [9, 8, 7, 6, 3] (.region [⟨0, some 9, .a false (.bin .lss (.t 8) (.t 7)) none, none, []⟩])
  (.seq [8, 7, 6, 3] (.cond (.t 9) .skip (.exit 0))
  (.seq [8, 7, 6, 3] (.block 1 (.seq [8, 7, 6, 5, 3] (.region [⟨0, some 10, .a false (.indexA 5 (.t 6) (.t 8)) none, none, []⟩,
    ⟨1, some 11, .a true (.loadH (some 5) (.t 10)) none, none, []⟩,
    ⟨2, some 5, .a false (.allocB 0 [(.int .i64 0), (.int .i64 0), (.int .i64 0), (.int .i64 0), (.int .i64 0)]) none, none, []⟩,
    ⟨3, none, .a false (.storeB 0 5 (.t 5) (.t 11)) none, none, []⟩])
  (.seq [8, 7, 6, 5, 3] (.seq [32, 8, 7, 6, 5, 3] (.region [⟨0, some 12, .a false (.fieldA 0 (.t 5)) none, none, []⟩,
    ⟨1, some 13, .a false (.loadB 0 none (.t 12)) none, none, []⟩,
    ⟨2, some 14, .a false (.bin .lss (.t 13) (.c (.int .i64 0))) none, none, []⟩,
    ⟨3, some 15, .a false (.mv (.t 14)) none, none, []⟩,
    ⟨4, some 16, .a false (.fieldA 0 (.t 5)) none, (some (15, false)), []⟩,
    ⟨5, some 17, .a false (.loadB 0 none (.t 16)) none, (some (15, false)), []⟩,
    ⟨6, some 18, .a false (.bin .gtr (.t 17) (.c (.int .i64 31))) none, (some (15, false)), []⟩,
    ⟨7, some 19, .a false (.pick (.t 15) (.c (.bool true)) (.t 18)) none, none, []⟩,
    ⟨8, some 20, .a false (.mv (.t 19)) none, none, []⟩,
    ⟨9, some 21, .a false (.mv (.t 3)) none, (some (20, false)), []⟩,
    ⟨10, some 22, .a false (.fieldA 0 (.t 5)) none, (some (20, false)), []⟩,
    ⟨11, some 23, .a false (.loadB 0 none (.t 22)) none, (some (20, false)), []⟩,
    ⟨12, some 24, .call false s_impl_bit p_impl_bit D_impl_bit [(.t 21), (.t 23)], (some (20, false)), []⟩,
    ⟨13, some 25, .a false (.bin .eql (.t 24) (.c (.int .i64 1))) none, (some (20, false)), []⟩,
    ⟨14, some 26, .a false (.pick (.t 20) (.c (.bool true)) (.t 25)) none, none, []⟩,
    ⟨15, some 27, .a false (.mv (.t 26)) none, none, []⟩,
    ⟨16, some 28, .a false (.fieldA 1 (.t 5)) none, (some (27, false)), []⟩,
    ⟨17, some 29, .a false (.loadB 0 (some 4) (.t 28)) none, (some (27, false)), []⟩,
    ⟨18, some 30, .call false s_impl_IsAction p_impl_IsAction D_impl_IsAction [(.t 29)], (some (27, false)), []⟩,
    ⟨19, some 31, .a false (.un .not (.t 30)) none, (some (27, false)), []⟩,
    ⟨20, some 32, .a false (.pick (.t 27) (.c (.bool true)) (.t 31)) none, none, []⟩])
  (.cond (.t 32) (.seq [2] (.region [⟨0, some 2, .a false (.mv (.c (.bool false))) none, none, []⟩])
  .ret) .skip))
  (.seq [8, 7, 6, 5, 3] (.seq [35, 8, 7, 6, 5, 3] (.region [⟨0, some 33, .a false (.fieldA 1 (.t 5)) none, none, []⟩,
    ⟨1, some 34, .a false (.fieldA 0 (.t 33)) none, none, []⟩,
    ⟨2, some 35, .a false (.loadB 0 none (.t 34)) none, none, []⟩])
  (.block 2 (.seq [36, 8, 7, 6, 5, 3] (.seq [36, 35, 8, 7, 6, 5, 3] (.region [⟨0, some 37, .a false (.bin .eql (.t 35) (.c (.int .i64 1))) none, none, []⟩,
    ⟨1, some 36, .a false (.mv (.t 37)) none, none, []⟩])
  (.cond (.t 36) .skip (.seq [36, 35, 8, 7, 6, 5, 3] (.region [⟨0, some 38, .a false (.bin .eql (.t 35) (.c (.int .i64 6))) none, none, []⟩,
    ⟨1, some 36, .a false (.mv (.t 38)) none, none, []⟩])
  (.cond (.t 36) .skip (.region [⟨0, some 39, .a false (.bin .eql (.t 35) (.c (.int .i64 7))) none, none, []⟩,
    ⟨1, some 36, .a false (.mv (.t 39)) none, none, []⟩])))))
  (.cond (.t 36) (.seq [2] (.region [⟨0, some 2, .a false (.mv (.c (.bool false))) none, none, []⟩])
  .ret) .skip))))
  (.region [⟨0, some 40, .a false (.mv (.t 3)) none, none, []⟩,
    ⟨1, some 41, .a false (.fieldA 0 (.t 5)) none, none, []⟩,
    ⟨2, some 42, .a false (.loadB 0 none (.t 41)) none, none, []⟩,
    ⟨3, some 43, .a false (.bin .shl (.c (.int .i64 1)) (.t 42)) none, none, []⟩,
    ⟨4, some 44, .a false (.bin .or (.t 40) (.t 43)) none, none, []⟩,
    ⟨5, some 3, .a false (.mv (.t 44)) none, none, []⟩])))))
  (.region [⟨0, some 45, .a false (.bin .add (.t 8) (.c (.int .i64 1))) none, none, []⟩,
    ⟨1, some 8, .a false (.mv (.t 45)) none, none, []⟩])))))))
  (.seq [2] (.region [⟨0, some 2, .a false (.mv (.c (.bool true))) none, none, []⟩])
  .ret))))
noncomputable def df_impl_IsHeld : DFun := ⟨1, 46, 1, true, [.tmp 2], dc_impl_IsHeld⟩
noncomputable def pf_impl_IsHeld : PFun := df_impl_IsHeld.er
noncomputable def f_impl_IsHeld : AFun := pf_impl_IsHeld.er
@[irreducible] noncomputable def s_impl_IsHeld : CallSem := funSem f_impl_IsHeld
@[irreducible] noncomputable def p_impl_IsHeld : PSem := pfunSem pf_impl_IsHeld
theorem sp_impl_IsHeld : SoundP s_impl_IsHeld p_impl_IsHeld := by unfold s_impl_IsHeld p_impl_IsHeld; exact pfun_sound (f := pf_impl_IsHeld) ⟨sp_impl_bit, sp_impl_IsAction, trivial⟩
def h_impl_IsHeld : List HT := [.one .frz (.sl (.cons (.int .i64) (.cons (.int .i64) (.cons (.int .i64) (.cons (.int .i64) (.one (.int .i64)))))))]
def q_impl_IsHeld : QT := .one (.one .own (.bool))
@[irreducible] noncomputable def v_impl_IsHeld (x : List (Int × Int × Int × Int × Int)) : Bool := fnV df_impl_IsHeld h_impl_IsHeld q_impl_IsHeld x
@[irreducible] noncomputable def ok_impl_IsHeld (x : List (Int × Int × Int × Int × Int)) : Prop := fnOk df_impl_IsHeld h_impl_IsHeld q_impl_IsHeld x
noncomputable def D_impl_IsHeld : DSem := DSemOf h_impl_IsHeld q_impl_IsHeld ok_impl_IsHeld v_impl_IsHeld
theorem ck_impl_IsHeld (x : List (Int × Int × Int × Int × Int)) : fnChk df_impl_IsHeld h_impl_IsHeld q_impl_IsHeld x = true := by kernel_rfl
theorem ob_impl_IsHeld : AllD df_impl_IsHeld.body.obs := ⟨sd_impl_bit, sd_impl_IsAction, trivial⟩
theorem st_impl_IsHeld : fnSt df_impl_IsHeld h_impl_IsHeld q_impl_IsHeld = true := by kernel_rfl
theorem sd_impl_IsHeld : SoundD p_impl_IsHeld D_impl_IsHeld := by unfold p_impl_IsHeld; exact soundD_of (f := df_impl_IsHeld) (hs := h_impl_IsHeld) (q := q_impl_IsHeld) ob_impl_IsHeld st_impl_IsHeld ck_impl_IsHeld (fun x h => by unfold ok_impl_IsHeld at h; exact h) (fun x => by unfold v_impl_IsHeld; rfl)

noncomputable def dc_laws_eqHeld : DCode :=
  (.seq [3, 2] (.region [⟨0, some 2, .a false (.boxB 0 5 (.t 0)) none, none, []⟩,
    ⟨1, some 3, .a false (.boxB 1 5 (.t 1)) none, none, []⟩,
    ⟨2, some 4, .a false (.mv (.c (.bool false))) none, none, []⟩])
  (.seq [3, 2] (.seq [9, 3, 2] (.region [⟨0, some 5, .a false (.fieldA 0 (.t 2)) none, none, []⟩,
    ⟨1, some 6, .a false (.loadB 0 none (.t 5)) none, none, []⟩,
    ⟨2, some 7, .a false (.fieldA 0 (.t 3)) none, none, []⟩,
    ⟨3, some 8, .a false (.loadB 1 none (.t 7)) none, none, []⟩,
    ⟨4, some 9, .a false (.bin .neq (.t 6) (.t 8)) none, none, []⟩])
  (.cond (.t 9) (.seq [4] (.region [⟨0, some 4, .a false (.mv (.c (.bool false))) none, none, []⟩])
  .ret) .skip))
  (.seq [] (.seq [15] (.region [⟨0, some 10, .a false (.fieldA 1 (.t 2)) none, none, []⟩,
    ⟨1, some 11, .a false (.loadB 0 (some 4) (.t 10)) none, none, []⟩,
    ⟨2, some 12, .a false (.fieldA 1 (.t 3)) none, none, []⟩,
    ⟨3, some 13, .a false (.loadB 1 (some 4) (.t 12)) none, none, []⟩,
    ⟨4, some 14, .call false s_laws_eqAction p_laws_eqAction D_laws_eqAction [(.t 11), (.t 13)], none, []⟩,
    ⟨5, some 15, .a false (.un .not (.t 14)) none, none, []⟩])
  (.cond (.t 15) (.seq [4] (.region [⟨0, some 4, .a false (.mv (.c (.bool false))) none, none, []⟩])
  .ret) .skip))
  (.seq [4] (.region [⟨0, some 4, .a false (.mv (.c (.bool true))) none, none, []⟩])
  .ret))))
noncomputable def df_laws_eqHeld : DFun := ⟨2, 16, 2, true, [.tmp 4], dc_laws_eqHeld⟩
noncomputable def pf_laws_eqHeld : PFun := df_laws_eqHeld.er
noncomputable def f_laws_eqHeld : AFun := pf_laws_eqHeld.er
@[irreducible] noncomputable def s_laws_eqHeld : CallSem := funSem f_laws_eqHeld
@[irreducible] noncomputable def p_laws_eqHeld : PSem := pfunSem pf_laws_eqHeld
theorem sp_laws_eqHeld : SoundP s_laws_eqHeld p_laws_eqHeld := by unfold s_laws_eqHeld p_laws_eqHeld; exact pfun_sound (f := pf_laws_eqHeld) ⟨sp_laws_eqAction, trivial⟩
def h_laws_eqHeld : List HT := [.agg [(.frz, .int .i64), (.frz, .int .i64), (.frz, .int .i64), (.frz, .int .i64), (.frz, .int .i64)], .agg [(.frz, .int .i64), (.frz, .int .i64), (.frz, .int .i64), (.frz, .int .i64), (.frz, .int .i64)]]
def q_laws_eqHeld : QT := .one (.one .own (.bool))
@[irreducible] noncomputable def v_laws_eqHeld (x : (Int × Int × Int × Int × Int) × (Int × Int × Int × Int × Int)) : Bool := fnV df_laws_eqHeld h_laws_eqHeld q_laws_eqHeld x
@[irreducible] noncomputable def ok_laws_eqHeld (x : (Int × Int × Int × Int × Int) × (Int × Int × Int × Int × Int)) : Prop := fnOk df_laws_eqHeld h_laws_eqHeld q_laws_eqHeld x
noncomputable def D_laws_eqHeld : DSem := DSemOf h_laws_eqHeld q_laws_eqHeld ok_laws_eqHeld v_laws_eqHeld
theorem ck_laws_eqHeld (x : (Int × Int × Int × Int × Int) × (Int × Int × Int × Int × Int)) : fnChk df_laws_eqHeld h_laws_eqHeld q_laws_eqHeld x = true := by kernel_rfl
theorem ob_laws_eqHeld : AllD df_laws_eqHeld.body.obs := ⟨sd_laws_eqAction, trivial⟩
theorem st_laws_eqHeld : fnSt df_laws_eqHeld h_laws_eqHeld q_laws_eqHeld = true := by kernel_rfl
theorem sd_laws_eqHeld : SoundD p_laws_eqHeld D_laws_eqHeld := by unfold p_laws_eqHeld; exact soundD_of (f := df_laws_eqHeld) (hs := h_laws_eqHeld) (q := q_laws_eqHeld) ob_laws_eqHeld st_laws_eqHeld ck_laws_eqHeld (fun x h => by unfold ok_laws_eqHeld at h; exact h) (fun x => by unfold v_laws_eqHeld; rfl)

noncomputable def dc_laws_eqHeldS : DCode :=
  (.seq [1, 0] (.region [⟨0, some 4, .a false (.mv (.c (.bool false))) none, none, []⟩])
  (.seq [1, 0] (.seq [10, 1, 0] (.region [⟨0, some 6, .a true (.mv (.t 0)) none, none, []⟩,
    ⟨1, some 7, .a false (.len (.t 6)) none, none, []⟩,
    ⟨2, some 8, .a true (.mv (.t 1)) none, none, []⟩,
    ⟨3, some 9, .a false (.len (.t 8)) none, none, []⟩,
    ⟨4, some 10, .a false (.bin .neq (.t 7) (.t 9)) none, none, []⟩])
  (.cond (.t 10) (.seq [4] (.region [⟨0, some 4, .a false (.mv (.c (.bool false))) none, none, []⟩])
  .ret) .skip))
  (.seq [] (.seq [5, 1, 0] (.region [⟨0, some 5, .a false (.mv (.c (.int .i64 0))) none, none, []⟩])
  (.block 0 (.loop [0, 1, 5] 1 (.seq [5, 1, 0] (.seq [14, 5, 1, 0] (.region [⟨0, some 11, .a false (.mv (.t 5)) none, none, []⟩,
    ⟨1, some 12, .a true (.mv (.t 0)) none, none, []⟩,
    ⟨2, some 13, .a false (.len (.t 12)) none, none, []⟩,
    ⟨3, some 14, .a false (.bin .lss (.t 11) (.t 13)) none, none, []⟩])
  (.cond (.t 14) .skip (.exit 0)))
  (.seq [5, 1, 0] (.block 1 (.seq [26, 5, 1, 0] (.region [⟨0, some 17, .a true (.mv (.t 0)) none, none, []⟩,
    ⟨1, some 18, .a false (.mv (.t 5)) none, none, []⟩,
    ⟨2, some 19, .a false (.indexA 5 (.t 17) (.t 18)) none, none, [0, 1]⟩,
    ⟨3, some 20, .a false (.loadH (some 5) (.t 19)) none, none, [0, 1, 2]⟩,
    ⟨4, some 21, .a true (.mv (.t 1)) none, none, []⟩,
    ⟨5, some 22, .a false (.mv (.t 5)) none, none, []⟩,
    ⟨6, some 23, .a false (.indexA 5 (.t 21) (.t 22)) none, none, [4, 5]⟩,
    ⟨7, some 24, .a false (.loadH (some 5) (.t 23)) none, none, [4, 5, 6]⟩,
    ⟨8, some 25, .call false s_laws_eqHeld p_laws_eqHeld D_laws_eqHeld [(.t 20), (.t 24)], none, [0, 1, 2, 3, 4, 5, 6, 7]⟩,
    ⟨9, some 26, .a false (.un .not (.t 25)) none, none, [0, 1, 2, 3, 4, 5, 6, 7, 8]⟩])
  (.cond (.t 26) (.seq [4] (.region [⟨0, some 4, .a false (.mv (.c (.bool false))) none, none, []⟩])
  .ret) .skip)))
  (.region [⟨0, some 15, .a false (.mv (.t 5)) none, none, []⟩,
    ⟨1, some 16, .a false (.bin .add (.t 15) (.c (.int .i64 1))) none, none, []⟩,
    ⟨2, some 5, .a false (.mv (.t 16)) none, none, []⟩]))))))
  (.seq [4] (.region [⟨0, some 4, .a false (.mv (.c (.bool true))) none, none, []⟩])
  .ret))))
noncomputable def df_laws_eqHeldS : DFun := ⟨2, 27, 0, true, [.tmp 4], dc_laws_eqHeldS⟩
noncomputable def pf_laws_eqHeldS : PFun := df_laws_eqHeldS.er
noncomputable def f_laws_eqHeldS : AFun := pf_laws_eqHeldS.er
@[irreducible] noncomputable def s_laws_eqHeldS : CallSem := funSem f_laws_eqHeldS
@[irreducible] noncomputable def p_laws_eqHeldS : PSem := pfunSem pf_laws_eqHeldS
theorem sp_laws_eqHeldS : SoundP s_laws_eqHeldS p_laws_eqHeldS := by unfold s_laws_eqHeldS p_laws_eqHeldS; exact pfun_sound (f := pf_laws_eqHeldS) ⟨sp_laws_eqHeld, trivial⟩
def h_laws_eqHeldS : List HT := [.one .frz (.sl (.cons (.int .i64) (.cons (.int .i64) (.cons (.int .i64) (.cons (.int .i64) (.one (.int .i64))))))), .one .frz (.sl (.cons (.int .i64) (.cons (.int .i64) (.cons (.int .i64) (.cons (.int .i64) (.one (.int .i64)))))))]
def q_laws_eqHeldS : QT := .one (.one .own (.bool))
@[irreducible] noncomputable def v_laws_eqHeldS (x : (List (Int × Int × Int × Int × Int)) × (List (Int × Int × Int × Int × Int))) : Bool := fnV df_laws_eqHeldS h_laws_eqHeldS q_laws_eqHeldS x
@[irreducible] noncomputable def ok_laws_eqHeldS (x : (List (Int × Int × Int × Int × Int)) × (List (Int × Int × Int × Int × Int))) : Prop := fnOk df_laws_eqHeldS h_laws_eqHeldS q_laws_eqHeldS x
noncomputable def D_laws_eqHeldS : DSem := DSemOf h_laws_eqHeldS q_laws_eqHeldS ok_laws_eqHeldS v_laws_eqHeldS
theorem ck_laws_eqHeldS (x : (List (Int × Int × Int × Int × Int)) × (List (Int × Int × Int × Int × Int))) : fnChk df_laws_eqHeldS h_laws_eqHeldS q_laws_eqHeldS x = true := by kernel_rfl
theorem ob_laws_eqHeldS : AllD df_laws_eqHeldS.body.obs := ⟨sd_laws_eqHeld, trivial⟩
theorem st_laws_eqHeldS : fnSt df_laws_eqHeldS h_laws_eqHeldS q_laws_eqHeldS = true := by kernel_rfl
theorem sd_laws_eqHeldS : SoundD p_laws_eqHeldS D_laws_eqHeldS := by unfold p_laws_eqHeldS; exact soundD_of (f := df_laws_eqHeldS) (hs := h_laws_eqHeldS) (q := q_laws_eqHeldS) ob_laws_eqHeldS st_laws_eqHeldS ck_laws_eqHeldS (fun x h => by unfold ok_laws_eqHeldS at h; exact h) (fun x => by unfold v_laws_eqHeldS; rfl)

noncomputable def dc_laws_FnExactIsHeld : DCode :=
  (.seq [0] (.region [⟨0, some 2, .a false (.mv (.c (.bool false))) none, none, []⟩])
  (.seq [3, 0] (.region [⟨0, some 3, .a false (.mv (.c (.int .i64 1048576))) none, none, []⟩])
  (.seq [3, 0] (.region [⟨0, some 7, .a true (.mv (.t 0)) none, none, []⟩,
    ⟨1, some 8, .a false (.mv (.t 3)) none, none, []⟩,
    ⟨2, some 9, .call false s_laws_szHeldS p_laws_szHeldS D_laws_szHeldS [(.t 7), (.t 8)], none, []⟩,
    ⟨3, some 3, .a false (.mv (.t 9)) none, none, []⟩])
  (.seq [0] (.seq [11, 0] (.region [⟨0, some 10, .a false (.mv (.t 3)) none, none, []⟩,
    ⟨1, some 11, .a false (.bin .lss (.t 10) (.c (.int .i64 0))) none, none, []⟩])
  (.cond (.t 11) (.seq [2] (.region [⟨0, some 2, .a false (.mv (.c (.bool true))) none, none, []⟩])
  .ret) .skip))
  (.seq [4, 0] (.region [⟨0, some 12, .a true (.mv (.t 0)) none, none, []⟩,
    ⟨1, some 13, .call false s_laws_toHeldS p_laws_toHeldS D_laws_toHeldS [(.t 12)], none, []⟩,
    ⟨2, some 14, .call false s_spec_IsHeld p_spec_IsHeld D_spec_IsHeld [(.t 13)], none, []⟩,
    ⟨3, some 4, .a false (.mv (.t 14)) none, none, []⟩])
  (.seq [5, 4, 0] (.region [⟨0, some 15, .a true (.mv (.t 0)) none, none, []⟩,
    ⟨1, some 16, .call false s_laws_toHeldS p_laws_toHeldS D_laws_toHeldS [(.t 15)], none, []⟩,
    ⟨2, some 5, .a true (.mv (.t 16)) none, none, []⟩])
  (.seq [6, 5, 4, 0] (.region [⟨0, some 17, .a true (.mv (.t 5)) none, none, []⟩,
    ⟨1, some 18, .call false s_impl_IsHeld p_impl_IsHeld D_impl_IsHeld [(.t 17)], none, []⟩,
    ⟨2, some 6, .a false (.mv (.t 18)) none, none, []⟩])
  (.seq [5, 0] (.seq [21, 5, 0] (.region [⟨0, some 19, .a false (.mv (.t 6)) none, none, []⟩,
    ⟨1, some 20, .a false (.mv (.t 4)) none, none, []⟩,
    ⟨2, some 21, .a false (.eqB true (.t 19) (.t 20)) none, none, []⟩])
  (.cond (.t 21) (.seq [2] (.region [⟨0, some 2, .a false (.mv (.c (.bool false))) none, none, []⟩])
  .ret) .skip))
  (.seq [] (.seq [26] (.region [⟨0, some 22, .a true (.mv (.t 5)) none, none, []⟩,
    ⟨1, some 23, .a true (.mv (.t 0)) none, none, []⟩,
    ⟨2, some 24, .call false s_laws_toHeldS p_laws_toHeldS D_laws_toHeldS [(.t 23)], none, []⟩,
    ⟨3, some 25, .call false s_laws_eqHeldS p_laws_eqHeldS D_laws_eqHeldS [(.t 22), (.t 24)], none, []⟩,
    ⟨4, some 26, .a false (.un .not (.t 25)) none, none, []⟩])
  (.cond (.t 26) (.seq [2] (.region [⟨0, some 2, .a false (.mv (.c (.bool false))) none, none, []⟩])
  .ret) .skip))
  (.seq [2] (.region [⟨0, some 2, .a false (.mv (.c (.bool true))) none, none, []⟩])
  .ret))))))))))
noncomputable def df_laws_FnExactIsHeld : DFun := ⟨1, 27, 0, true, [.tmp 2], dc_laws_FnExactIsHeld⟩
noncomputable def pf_laws_FnExactIsHeld : PFun := df_laws_FnExactIsHeld.er
noncomputable def f_laws_FnExactIsHeld : AFun := pf_laws_FnExactIsHeld.er
@[irreducible] noncomputable def s_laws_FnExactIsHeld : CallSem := funSem f_laws_FnExactIsHeld
@[irreducible] noncomputable def p_laws_FnExactIsHeld : PSem := pfunSem pf_laws_FnExactIsHeld
theorem sp_laws_FnExactIsHeld : SoundP s_laws_FnExactIsHeld p_laws_FnExactIsHeld := by unfold s_laws_FnExactIsHeld p_laws_FnExactIsHeld; exact pfun_sound (f := pf_laws_FnExactIsHeld) ⟨sp_laws_szHeldS, sp_laws_toHeldS, sp_spec_IsHeld, sp_laws_toHeldS, sp_impl_IsHeld, sp_laws_toHeldS, sp_laws_eqHeldS, trivial⟩
def h_laws_FnExactIsHeld : List HT := [.one .frz (.sl (.cons (.int .i64) (.cons (.int .i64) (.cons (.int .i64) (.cons (.int .i64) (.one (.int .i64)))))))]
def q_laws_FnExactIsHeld : QT := .one (.one .own (.bool))
@[irreducible] noncomputable def v_laws_FnExactIsHeld (x : List (Int × Int × Int × Int × Int)) : Bool := fnV df_laws_FnExactIsHeld h_laws_FnExactIsHeld q_laws_FnExactIsHeld x
@[irreducible] noncomputable def ok_laws_FnExactIsHeld (x : List (Int × Int × Int × Int × Int)) : Prop := fnOk df_laws_FnExactIsHeld h_laws_FnExactIsHeld q_laws_FnExactIsHeld x
noncomputable def D_laws_FnExactIsHeld : DSem := DSemOf h_laws_FnExactIsHeld q_laws_FnExactIsHeld ok_laws_FnExactIsHeld v_laws_FnExactIsHeld
theorem ck_laws_FnExactIsHeld (x : List (Int × Int × Int × Int × Int)) : fnChk df_laws_FnExactIsHeld h_laws_FnExactIsHeld q_laws_FnExactIsHeld x = true := by kernel_rfl
theorem ob_laws_FnExactIsHeld : AllD df_laws_FnExactIsHeld.body.obs := ⟨sd_laws_szHeldS, sd_laws_toHeldS, sd_spec_IsHeld, sd_laws_toHeldS, sd_impl_IsHeld, sd_laws_toHeldS, sd_laws_eqHeldS, trivial⟩
theorem st_laws_FnExactIsHeld : fnSt df_laws_FnExactIsHeld h_laws_FnExactIsHeld q_laws_FnExactIsHeld = true := by kernel_rfl
theorem sd_laws_FnExactIsHeld : SoundD p_laws_FnExactIsHeld D_laws_FnExactIsHeld := by unfold p_laws_FnExactIsHeld; exact soundD_of (f := df_laws_FnExactIsHeld) (hs := h_laws_FnExactIsHeld) (q := q_laws_FnExactIsHeld) ob_laws_FnExactIsHeld st_laws_FnExactIsHeld ck_laws_FnExactIsHeld (fun x h => by unfold ok_laws_FnExactIsHeld at h; exact h) (fun x => by unfold v_laws_FnExactIsHeld; rfl)

noncomputable def dc_spec_LayersOn : DCode :=
  (.seq [1, 0] (.region [⟨0, some 4, .a false (.mv (.c (.int .i64 0))) none, none, []⟩])
  (.seq [5, 1, 0] (.region [⟨0, some 5, .a false (.mv (.c (.int .i64 1))) none, none, []⟩])
  (.seq [5, 1] (.seq [8, 5, 1, 0] (.region [⟨0, some 7, .a false (.mv (.t 0)) none, none, []⟩,
    ⟨1, some 8, .call false s_spec_l1In p_spec_l1In D_spec_l1In [(.t 7), (.c (.int .i64 0)), (.c (.int .i64 15))], none, []⟩])
  (.cond (.t 8) (.region [⟨0, some 9, .a false (.mv (.t 0)) none, none, []⟩,
    ⟨1, some 10, .a false (.bin .or (.c (.int .i64 1)) (.t 9)) none, none, []⟩,
    ⟨2, some 5, .a false (.mv (.t 10)) none, none, []⟩]) .skip))
  (.seq [5] (.seq [6, 5, 1] (.region [⟨0, some 6, .a false (.mv (.c (.int .i64 0))) none, none, []⟩])
  (.block 0 (.loop [1, 5, 6] 1 (.seq [6, 5, 1] (.seq [18, 6, 5, 1] (.region [⟨0, some 11, .a false (.mv (.t 6)) none, none, []⟩,
    ⟨1, some 12, .a true (.mv (.t 1)) none, none, []⟩,
    ⟨2, some 13, .a false (.len (.t 12)) none, none, []⟩,
    ⟨3, some 14, .a false (.bin .lss (.t 11) (.t 13)) none, none, []⟩,
    ⟨4, some 15, .a false (.mv (.t 14)) none, none, []⟩,
    ⟨5, some 16, .a true (.mv (.t 1)) none, (some (15, true)), []⟩,
    ⟨6, some 17, .call false s_spec_IsHeld p_spec_IsHeld D_spec_IsHeld [(.t 16)], (some (15, true)), []⟩,
    ⟨7, some 18, .a false (.pick (.t 15) (.t 17) (.c (.bool false))) none, none, []⟩])
  (.cond (.t 18) .skip (.exit 0)))
  (.seq [6, 5, 1] (.block 1 (.seq [27, 6, 5, 1] (.region [⟨0, some 21, .a true (.mv (.t 1)) none, none, []⟩,
    ⟨1, some 22, .a false (.mv (.t 6)) none, none, []⟩,
    ⟨2, some 23, .a false (.indexA 5 (.t 21) (.t 22)) none, none, []⟩,
    ⟨3, some 24, .a false (.fieldA 1 (.t 23)) none, none, []⟩,
    ⟨4, some 25, .a false (.fieldA 0 (.t 24)) none, none, []⟩,
    ⟨5, some 26, .a false (.loadH none (.t 25)) none, none, []⟩,
    ⟨6, some 27, .a false (.bin .eql (.t 26) (.c (.int .i64 3))) none, none, []⟩])
  (.cond (.t 27) (.region [⟨0, some 28, .a false (.mv (.t 5)) none, none, []⟩,
    ⟨1, some 29, .a true (.mv (.t 1)) none, none, []⟩,
    ⟨2, some 30, .a false (.mv (.t 6)) none, none, []⟩,
    ⟨3, some 31, .a false (.indexA 5 (.t 29) (.t 30)) none, none, []⟩,
    ⟨4, some 32, .a false (.fieldA 1 (.t 31)) none, none, []⟩,
    ⟨5, some 33, .a false (.fieldA 3 (.t 32)) none, none, []⟩,
    ⟨6, some 34, .a false (.loadH none (.t 33)) none, none, []⟩,
    ⟨7, some 35, .a false (.bin .shl (.c (.int .i64 1)) (.t 34)) none, none, []⟩,
    ⟨8, some 36, .a false (.bin .or (.t 28) (.t 35)) none, none, []⟩,
    ⟨9, some 5, .a false (.mv (.t 36)) none, none, []⟩]) .skip)))
  (.region [⟨0, some 19, .a false (.mv (.t 6)) none, none, []⟩,
    ⟨1, some 20, .a false (.bin .add (.t 19) (.c (.int .i64 1))) none, none, []⟩,
    ⟨2, some 6, .a false (.mv (.t 20)) none, none, []⟩]))))))
  (.seq [4] (.region [⟨0, some 37, .a false (.mv (.t 5)) none, none, []⟩,
    ⟨1, some 4, .a false (.mv (.t 37)) none, none, []⟩])
  .ret)))))
noncomputable def df_spec_LayersOn : DFun := ⟨2, 38, 0, true, [.tmp 4], dc_spec_LayersOn⟩
noncomputable def pf_spec_LayersOn : PFun := df_spec_LayersOn.er
noncomputable def f_spec_LayersOn : AFun := pf_spec_LayersOn.er
@[irreducible] noncomputable def s_spec_LayersOn : CallSem := funSem f_spec_LayersOn
@[irreducible] noncomputable def p_spec_LayersOn : PSem := pfunSem pf_spec_LayersOn
theorem sp_spec_LayersOn : SoundP s_spec_LayersOn p_spec_LayersOn := by unfold s_spec_LayersOn p_spec_LayersOn; exact pfun_sound (f := pf_spec_LayersOn) ⟨sp_spec_l1In, sp_spec_IsHeld, trivial⟩
def h_spec_LayersOn : List HT := [.one .frz (.int .i64), .one .frz (.sl (.cons (.int .i64) (.cons (.int .i64) (.cons (.int .i64) (.cons (.int .i64) (.one (.int .i64)))))))]
def q_spec_LayersOn : QT := .one (.one .own (.int .i64))
@[irreducible] noncomputable def v_spec_LayersOn (x : Int × (List (Int × Int × Int × Int × Int))) : Int := fnV df_spec_LayersOn h_spec_LayersOn q_spec_LayersOn x
@[irreducible] noncomputable def ok_spec_LayersOn (x : Int × (List (Int × Int × Int × Int × Int))) : Prop := fnOk df_spec_LayersOn h_spec_LayersOn q_spec_LayersOn x
noncomputable def D_spec_LayersOn : DSem := DSemOf h_spec_LayersOn q_spec_LayersOn ok_spec_LayersOn v_spec_LayersOn
theorem ck_spec_LayersOn (x : Int × (List (Int × Int × Int × Int × Int))) : fnChk df_spec_LayersOn h_spec_LayersOn q_spec_LayersOn x = true := by kernel_rfl
theorem ob_spec_LayersOn : AllD df_spec_LayersOn.body.obs := ⟨sd_spec_l1In, sd_spec_IsHeld, trivial⟩
theorem st_spec_LayersOn : fnSt df_spec_LayersOn h_spec_LayersOn q_spec_LayersOn = true := by kernel_rfl
theorem sd_spec_LayersOn : SoundD p_spec_LayersOn D_spec_LayersOn := by unfold p_spec_LayersOn; exact soundD_of (f := df_spec_LayersOn) (hs := h_spec_LayersOn) (q := q_spec_LayersOn) ob_spec_LayersOn st_spec_LayersOn ck_spec_LayersOn (fun x h => by unfold ok_spec_LayersOn at h; exact h) (fun x => by unfold v_spec_LayersOn; rfl)

noncomputable def dc_impl_LayersOn : DCode :=
  (.seq [1, 0] (.region [⟨0, some 4, .a false (.mv (.c (.int .i64 0))) none, none, []⟩])
  (.seq [5, 1, 0] (.region [⟨0, some 5, .a false (.mv (.c (.int .i64 1))) none, none, []⟩])
  (.seq [5, 1] (.seq [13, 5, 1, 0] (.region [⟨0, some 8, .a false (.mv (.t 0)) none, none, []⟩,
    ⟨1, some 9, .a false (.bin .geq (.t 8) (.c (.int .i64 0))) none, none, []⟩,
    ⟨2, some 10, .a false (.mv (.t 9)) none, none, []⟩,
    ⟨3, some 11, .a false (.mv (.t 0)) none, (some (10, true)), []⟩,
    ⟨4, some 12, .a false (.bin .leq (.t 11) (.c (.int .i64 15))) none, (some (10, true)), []⟩,
    ⟨5, some 13, .a false (.pick (.t 10) (.t 12) (.c (.bool false))) none, none, []⟩])
  (.cond (.t 13) (.region [⟨0, some 14, .a false (.mv (.t 5)) none, none, []⟩,
    ⟨1, some 15, .a false (.mv (.t 0)) none, none, []⟩,
    ⟨2, some 16, .a false (.bin .or (.t 14) (.t 15)) none, none, []⟩,
    ⟨3, some 5, .a false (.mv (.t 16)) none, none, []⟩]) .skip))
  (.seq [5, 1] (.seq [19, 5, 1] (.region [⟨0, some 17, .a true (.mv (.t 1)) none, none, []⟩,
    ⟨1, some 18, .call false s_impl_IsHeld p_impl_IsHeld D_impl_IsHeld [(.t 17)], none, []⟩,
    ⟨2, some 19, .a false (.un .not (.t 18)) none, none, []⟩])
  (.cond (.t 19) (.seq [4] (.region [⟨0, some 20, .a false (.mv (.t 5)) none, none, []⟩,
    ⟨1, some 4, .a false (.mv (.t 20)) none, none, []⟩])
  .ret) .skip))
  (.seq [5] (.seq [23, 22, 21, 5] (.region [⟨0, some 21, .a true (.mv (.t 1)) none, none, []⟩,
    ⟨1, some 22, .a false (.len (.t 21)) none, none, []⟩,
    ⟨2, some 23, .a false (.mv (.c (.int .i64 0))) none, none, []⟩])
  (.block 0 (.loop [5, 21, 22, 23] 1 (.seq [24, 23, 22, 21, 5] (.region [⟨0, some 24, .a false (.bin .lss (.t 23) (.t 22)) none, none, []⟩])
  (.seq [23, 22, 21, 5] (.cond (.t 24) .skip (.exit 0))
  (.seq [23, 22, 21, 5] (.block 1 (.seq [23, 22, 21, 7, 5] (.region [⟨0, some 25, .a false (.indexA 5 (.t 21) (.t 23)) none, none, []⟩,
    ⟨1, some 26, .a true (.loadH (some 5) (.t 25)) none, none, []⟩,
    ⟨2, some 7, .a false (.allocB 0 [(.int .i64 0), (.int .i64 0), (.int .i64 0), (.int .i64 0), (.int .i64 0)]) none, none, []⟩,
    ⟨3, none, .a false (.storeB 0 5 (.t 7) (.t 26)) none, none, []⟩])
  (.seq [30, 23, 22, 21, 7, 5] (.region [⟨0, some 27, .a false (.fieldA 1 (.t 7)) none, none, []⟩,
    ⟨1, some 28, .a false (.fieldA 0 (.t 27)) none, none, []⟩,
    ⟨2, some 29, .a false (.loadB 0 none (.t 28)) none, none, []⟩,
    ⟨3, some 30, .a false (.bin .eql (.t 29) (.c (.int .i64 3))) none, none, []⟩])
  (.cond (.t 30) (.region [⟨0, some 31, .a false (.mv (.t 5)) none, none, []⟩,
    ⟨1, some 32, .a false (.fieldA 1 (.t 7)) none, none, []⟩,
    ⟨2, some 33, .a false (.fieldA 3 (.t 32)) none, none, []⟩,
    ⟨3, some 34, .a false (.loadB 0 none (.t 33)) none, none, []⟩,
    ⟨4, some 35, .a false (.bin .shl (.c (.int .i64 1)) (.t 34)) none, none, []⟩,
    ⟨5, some 36, .a false (.bin .or (.t 31) (.t 35)) none, none, []⟩,
    ⟨6, some 5, .a false (.mv (.t 36)) none, none, []⟩]) .skip))))
  (.region [⟨0, some 37, .a false (.bin .add (.t 23) (.c (.int .i64 1))) none, none, []⟩,
    ⟨1, some 23, .a false (.mv (.t 37)) none, none, []⟩])))))))
  (.seq [4] (.region [⟨0, some 38, .a false (.mv (.t 5)) none, none, []⟩,
    ⟨1, some 4, .a false (.mv (.t 38)) none, none, []⟩])
  .ret))))))
noncomputable def df_impl_LayersOn : DFun := ⟨2, 39, 1, true, [.tmp 4], dc_impl_LayersOn⟩
noncomputable def pf_impl_LayersOn : PFun := df_impl_LayersOn.er
noncomputable def f_impl_LayersOn : AFun := pf_impl_LayersOn.er
@[irreducible] noncomputable def s_impl_LayersOn : CallSem := funSem f_impl_LayersOn
@[irreducible] noncomputable def p_impl_LayersOn : PSem := pfunSem pf_impl_LayersOn
theorem sp_impl_LayersOn : SoundP s_impl_LayersOn p_impl_LayersOn := by unfold s_impl_LayersOn p_impl_LayersOn; exact pfun_sound (f := pf_impl_LayersOn) ⟨sp_impl_IsHeld, trivial⟩
def h_impl_LayersOn : List HT := [.one .frz (.int .i64), .one .frz (.sl (.cons (.int .i64) (.cons (.int .i64) (.cons (.int .i64) (.cons (.int .i64) (.one (.int .i64)))))))]
def q_impl_LayersOn : QT := .one (.one .own (.int .i64))
@[irreducible] noncomputable def v_impl_LayersOn (x : Int × (List (Int × Int × Int × Int × Int))) : Int := fnV df_impl_LayersOn h_impl_LayersOn q_impl_LayersOn x
@[irreducible] noncomputable def ok_impl_LayersOn (x : Int × (List (Int × Int × Int × Int × Int))) : Prop := fnOk df_impl_LayersOn h_impl_LayersOn q_impl_LayersOn x
noncomputable def D_impl_LayersOn : DSem := DSemOf h_impl_LayersOn q_impl_LayersOn ok_impl_LayersOn v_impl_LayersOn
theorem ck_impl_LayersOn (x : Int × (List (Int × Int × Int × Int × Int))) : fnChk df_impl_LayersOn h_impl_LayersOn q_impl_LayersOn x = true := by kernel_rfl
theorem ob_impl_LayersOn : AllD df_impl_LayersOn.body.obs := ⟨sd_impl_IsHeld, trivial⟩
theorem st_impl_LayersOn : fnSt df_impl_LayersOn h_impl_LayersOn q_impl_LayersOn = true := by kernel_rfl
theorem sd_impl_LayersOn : SoundD p_impl_LayersOn D_impl_LayersOn := by unfold p_impl_LayersOn; exact soundD_of (f := df_impl_LayersOn) (hs := h_impl_LayersOn) (q := q_impl_LayersOn) ob_impl_LayersOn st_impl_LayersOn ck_impl_LayersOn (fun x h => by unfold ok_impl_LayersOn at h; exact h) (fun x => by unfold v_impl_LayersOn; rfl)

noncomputable def dc_laws_FnExactLayersOn : DCode :=
  (.seq [1, 0] (.region [⟨0, some 4, .a false (.mv (.c (.bool false))) none, none, []⟩])
  (.seq [5, 1, 0] (.region [⟨0, some 5, .a false (.mv (.c (.int .i64 1048576))) none, none, []⟩])
  (.seq [5, 1, 0] (.region [⟨0, some 9, .a true (.mv (.t 1)) none, none, []⟩,
    ⟨1, some 10, .a false (.mv (.t 5)) none, none, []⟩,
    ⟨2, some 11, .call false s_laws_szHeldS p_laws_szHeldS D_laws_szHeldS [(.t 9), (.t 10)], none, []⟩,
    ⟨3, some 5, .a false (.mv (.t 11)) none, none, []⟩])
  (.seq [1, 0] (.seq [13, 1, 0] (.region [⟨0, some 12, .a false (.mv (.t 5)) none, none, []⟩,
    ⟨1, some 13, .a false (.bin .lss (.t 12) (.c (.int .i64 0))) none, none, []⟩])
  (.cond (.t 13) (.seq [4] (.region [⟨0, some 4, .a false (.mv (.c (.bool true))) none, none, []⟩])
  .ret) .skip))
  (.seq [6, 1, 0] (.region [⟨0, some 14, .a false (.mv (.t 0)) none, none, []⟩,
    ⟨1, some 15, .a true (.mv (.t 1)) none, none, []⟩,
    ⟨2, some 16, .call false s_laws_toHeldS p_laws_toHeldS D_laws_toHeldS [(.t 15)], none, []⟩,
    ⟨3, some 17, .call false s_spec_LayersOn p_spec_LayersOn D_spec_LayersOn [(.t 14), (.t 16)], none, []⟩,
    ⟨4, some 6, .a false (.mv (.t 17)) none, none, []⟩])
  (.seq [7, 6, 1, 0] (.region [⟨0, some 18, .a true (.mv (.t 1)) none, none, []⟩,
    ⟨1, some 19, .call false s_laws_toHeldS p_laws_toHeldS D_laws_toHeldS [(.t 18)], none, []⟩,
    ⟨2, some 7, .a true (.mv (.t 19)) none, none, []⟩])
  (.seq [8, 7, 6, 1] (.region [⟨0, some 20, .a false (.mv (.t 0)) none, none, []⟩,
    ⟨1, some 21, .a true (.mv (.t 7)) none, none, []⟩,
    ⟨2, some 22, .call false s_impl_LayersOn p_impl_LayersOn D_impl_LayersOn [(.t 20), (.t 21)], none, []⟩,
    ⟨3, some 8, .a false (.mv (.t 22)) none, none, []⟩])
  (.seq [7, 1] (.seq [25, 7, 1] (.region [⟨0, some 23, .a false (.mv (.t 8)) none, none, []⟩,
    ⟨1, some 24, .a false (.mv (.t 6)) none, none, []⟩,
    ⟨2, some 25, .a false (.bin .neq (.t 23) (.t 24)) none, none, []⟩])
  (.cond (.t 25) (.seq [4] (.region [⟨0, some 4, .a false (.mv (.c (.bool false))) none, none, []⟩])
  .ret) .skip))
  (.seq [] (.seq [30] (.region [⟨0, some 26, .a true (.mv (.t 7)) none, none, []⟩,
    ⟨1, some 27, .a true (.mv (.t 1)) none, none, []⟩,
    ⟨2, some 28, .call false s_laws_toHeldS p_laws_toHeldS D_laws_toHeldS [(.t 27)], none, []⟩,
    ⟨3, some 29, .call false s_laws_eqHeldS p_laws_eqHeldS D_laws_eqHeldS [(.t 26), (.t 28)], none, []⟩,
    ⟨4, some 30, .a false (.un .not (.t 29)) none, none, []⟩])
  (.cond (.t 30) (.seq [4] (.region [⟨0, some 4, .a false (.mv (.c (.bool false))) none, none, []⟩])
  .ret) .skip))
  (.seq [4] (.region [⟨0, some 4, .a false (.mv (.c (.bool true))) none, none, []⟩])
  .ret))))))))))
noncomputable def df_laws_FnExactLayersOn : DFun := ⟨2, 31, 0, true, [.tmp 4], dc_laws_FnExactLayersOn⟩
noncomputable def pf_laws_FnExactLayersOn : PFun := df_laws_FnExactLayersOn.er
noncomputable def f_laws_FnExactLayersOn : AFun := pf_laws_FnExactLayersOn.er
@[irreducible] noncomputable def s_laws_FnExactLayersOn : CallSem := funSem f_laws_FnExactLayersOn
@[irreducible] noncomputable def p_laws_FnExactLayersOn : PSem := pfunSem pf_laws_FnExactLayersOn
theorem sp_laws_FnExactLayersOn : SoundP s_laws_FnExactLayersOn p_laws_FnExactLayersOn := by unfold s_laws_FnExactLayersOn p_laws_FnExactLayersOn; exact pfun_sound (f := pf_laws_FnExactLayersOn) ⟨sp_laws_szHeldS, sp_laws_toHeldS, sp_spec_LayersOn, sp_laws_toHeldS, sp_impl_LayersOn, sp_laws_toHeldS, sp_laws_eqHeldS, trivial⟩
def h_laws_FnExactLayersOn : List HT := [.one .frz (.int .i64), .one .frz (.sl (.cons (.int .i64) (.cons (.int .i64) (.cons (.int .i64) (.cons (.int .i64) (.one (.int .i64)))))))]
def q_laws_FnExactLayersOn : QT := .one (.one .own (.bool))
@[irreducible] noncomputable def v_laws_FnExactLayersOn (x : Int × (List (Int × Int × Int × Int × Int))) : Bool := fnV df_laws_FnExactLayersOn h_laws_FnExactLayersOn q_laws_FnExactLayersOn x
@[irreducible] noncomputable def ok_laws_FnExactLayersOn (x : Int × (List (Int × Int × Int × Int × Int))) : Prop := fnOk df_laws_FnExactLayersOn h_laws_FnExactLayersOn q_laws_FnExactLayersOn x
noncomputable def D_laws_FnExactLayersOn : DSem := DSemOf h_laws_FnExactLayersOn q_laws_FnExactLayersOn ok_laws_FnExactLayersOn v_laws_FnExactLayersOn
theorem ck_laws_FnExactLayersOn (x : Int × (List (Int × Int × Int × Int × Int))) : fnChk df_laws_FnExactLayersOn h_laws_FnExactLayersOn q_laws_FnExactLayersOn x = true := by kernel_rfl
theorem ob_laws_FnExactLayersOn : AllD df_laws_FnExactLayersOn.body.obs := ⟨sd_laws_szHeldS, sd_laws_toHeldS, sd_spec_LayersOn, sd_laws_toHeldS, sd_impl_LayersOn, sd_laws_toHeldS, sd_laws_eqHeldS, trivial⟩
theorem st_laws_FnExactLayersOn : fnSt df_laws_FnExactLayersOn h_laws_FnExactLayersOn q_laws_FnExactLayersOn = true := by kernel_rfl
theorem sd_laws_FnExactLayersOn : SoundD p_laws_FnExactLayersOn D_laws_FnExactLayersOn := by unfold p_laws_FnExactLayersOn; exact soundD_of (f := df_laws_FnExactLayersOn) (hs := h_laws_FnExactLayersOn) (q := q_laws_FnExactLayersOn) ob_laws_FnExactLayersOn st_laws_FnExactLayersOn ck_laws_FnExactLayersOn (fun x h => by unfold ok_laws_FnExactLayersOn at h; exact h) (fun x => by unfold v_laws_FnExactLayersOn; rfl)

end Go.Ag
