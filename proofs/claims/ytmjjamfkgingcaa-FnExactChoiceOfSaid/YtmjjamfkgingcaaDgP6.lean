/-
  FUNCTIONS of the program in the form of the third level, written by program (ag.py) off the seat's own operations. Not trusted: each is checked against the seat's program where it is linked.
-/
import Derived.Test.YtmjjamfkgingcaaLibE
import Derived.KernelRfl
import Derived.Test.YtmjjamfkgingcaaDgP1
import Derived.Test.YtmjjamfkgingcaaDgP2
namespace Go.Ag
set_option linter.unusedSimpArgs false
set_option linter.unusedVariables false
set_option maxRecDepth 8000

noncomputable def dc_laws_szEventS : DCode :=
  (.seq [1, 0] (.region [⟨0, some 4, .a false (.mv (.c (.int .i64 0))) none, none, []⟩])
  (.seq [1] (.region [⟨0, some 5, .a false (.mv (.t 1)) none, none, []⟩,
    ⟨1, some 6, .a true (.mv (.t 0)) none, none, []⟩,
    ⟨2, some 7, .a false (.len (.t 6)) none, none, []⟩,
    ⟨3, some 8, .a false (.bin .sub (.t 5) (.t 7)) none, none, []⟩,
    ⟨4, some 1, .a false (.mv (.t 8)) none, none, []⟩])
  (.seq [1] (.seq [10, 1] (.region [⟨0, some 9, .a false (.mv (.t 1)) none, none, []⟩,
    ⟨1, some 10, .a false (.bin .lss (.t 9) (.c (.int .i64 0))) none, none, []⟩])
  (.cond (.t 10) (.seq [4] (.region [⟨0, some 4, .a false (.mv (.c (.int .i64 (-1)))) none, none, []⟩])
  .ret) .skip))
  (.seq [4] (.region [⟨0, some 11, .a false (.mv (.t 1)) none, none, []⟩,
    ⟨1, some 4, .a false (.mv (.t 11)) none, none, []⟩])
  .ret))))
noncomputable def df_laws_szEventS : DFun := ⟨2, 12, 0, true, [.tmp 4], dc_laws_szEventS⟩
noncomputable def pf_laws_szEventS : PFun := df_laws_szEventS.er
noncomputable def f_laws_szEventS : AFun := pf_laws_szEventS.er
@[irreducible] noncomputable def s_laws_szEventS : CallSem := funSem f_laws_szEventS
@[irreducible] noncomputable def p_laws_szEventS : PSem := pfunSem pf_laws_szEventS
theorem sp_laws_szEventS : SoundP s_laws_szEventS p_laws_szEventS := by unfold s_laws_szEventS p_laws_szEventS; exact pfun_sound (f := pf_laws_szEventS) trivial
def h_laws_szEventS : List HT := [.one .frz (.sl (.cons (.int .i64) (.cons (.int .i64) (.one (.bool))))), .one .frz (.int .i64)]
def q_laws_szEventS : QT := .one (.one .own (.int .i64))
@[irreducible] noncomputable def v_laws_szEventS (x : (List (Int × Int × Bool)) × Int) : Int := fnV df_laws_szEventS h_laws_szEventS q_laws_szEventS x
@[irreducible] noncomputable def ok_laws_szEventS (x : (List (Int × Int × Bool)) × Int) : Prop := fnOk df_laws_szEventS h_laws_szEventS q_laws_szEventS x
noncomputable def D_laws_szEventS : DSem := DSemOf h_laws_szEventS q_laws_szEventS ok_laws_szEventS v_laws_szEventS
theorem ck_laws_szEventS (x : (List (Int × Int × Bool)) × Int) : fnChk df_laws_szEventS h_laws_szEventS q_laws_szEventS x = true := by kernel_rfl
theorem ob_laws_szEventS : AllD df_laws_szEventS.body.obs := trivial
theorem st_laws_szEventS : fnSt df_laws_szEventS h_laws_szEventS q_laws_szEventS = true := by kernel_rfl
theorem sd_laws_szEventS : SoundD p_laws_szEventS D_laws_szEventS := by unfold p_laws_szEventS; exact soundD_of (f := df_laws_szEventS) (hs := h_laws_szEventS) (q := q_laws_szEventS) ob_laws_szEventS st_laws_szEventS ck_laws_szEventS (fun x h => by unfold ok_laws_szEventS at h; exact h) (fun x => by unfold v_laws_szEventS; rfl)

noncomputable def dc_laws_toTiming : DCode :=
  (.seq [2, 1] (.region [⟨0, some 1, .a false (.boxB 0 3 (.t 0)) none, none, []⟩,
    ⟨1, some 2, .a false (.allocB 1 [(.int .i64 0), (.int .i64 0), (.int .i64 0)]) none, none, []⟩])
  (.seq [3, 2, 1] (.region [⟨0, some 3, .a false (.allocB 2 [(.int .i64 0), (.int .i64 0), (.int .i64 0)]) none, none, []⟩])
  (.seq [3, 2, 1] (.region [⟨0, some 4, .a false (.fieldA 0 (.t 1)) none, none, []⟩,
    ⟨1, some 5, .a true (.loadB 0 none (.t 4)) none, none, []⟩,
    ⟨2, some 6, .a false (.fieldA 0 (.t 3)) none, none, []⟩,
    ⟨3, none, .a false (.storeB 2 1 (.t 6) (.t 5)) none, none, []⟩])
  (.seq [3, 2, 1] (.region [⟨0, some 7, .a false (.fieldA 1 (.t 1)) none, none, []⟩,
    ⟨1, some 8, .a true (.loadB 0 none (.t 7)) none, none, []⟩,
    ⟨2, some 9, .a false (.fieldA 1 (.t 3)) none, none, []⟩,
    ⟨3, none, .a false (.storeB 2 1 (.t 9) (.t 8)) none, none, []⟩])
  (.seq [3, 2] (.region [⟨0, some 10, .a false (.fieldA 2 (.t 1)) none, none, []⟩,
    ⟨1, some 11, .a true (.loadB 0 none (.t 10)) none, none, []⟩,
    ⟨2, some 12, .a false (.fieldA 2 (.t 3)) none, none, []⟩,
    ⟨3, none, .a false (.storeB 2 1 (.t 12) (.t 11)) none, none, []⟩])
  (.seq [2] (.region [⟨0, some 13, .a true (.loadB 2 (some 3) (.t 3)) none, none, []⟩,
    ⟨1, none, .a false (.storeB 1 3 (.t 2) (.t 13)) none, none, []⟩])
  .ret))))))
noncomputable def df_laws_toTiming : DFun := ⟨1, 14, 3, true, [.cell 2 (some 3)], dc_laws_toTiming⟩
noncomputable def pf_laws_toTiming : PFun := df_laws_toTiming.er
noncomputable def f_laws_toTiming : AFun := pf_laws_toTiming.er
@[irreducible] noncomputable def s_laws_toTiming : CallSem := funSem f_laws_toTiming
@[irreducible] noncomputable def p_laws_toTiming : PSem := pfunSem pf_laws_toTiming
theorem sp_laws_toTiming : SoundP s_laws_toTiming p_laws_toTiming := by unfold s_laws_toTiming p_laws_toTiming; exact pfun_sound (f := pf_laws_toTiming) trivial
def h_laws_toTiming : List HT := [.agg [(.frz, .int .i64), (.frz, .int .i64), (.frz, .int .i64)]]
def q_laws_toTiming : QT := .one (.agg [(.own, .int .i64), (.own, .int .i64), (.own, .int .i64)])
@[irreducible] noncomputable def v_laws_toTiming (x : Int × Int × Int) : Int × Int × Int := fnV df_laws_toTiming h_laws_toTiming q_laws_toTiming x
@[irreducible] noncomputable def ok_laws_toTiming (x : Int × Int × Int) : Prop := fnOk df_laws_toTiming h_laws_toTiming q_laws_toTiming x
noncomputable def D_laws_toTiming : DSem := DSemOf h_laws_toTiming q_laws_toTiming ok_laws_toTiming v_laws_toTiming
theorem ck_laws_toTiming (x : Int × Int × Int) : fnChk df_laws_toTiming h_laws_toTiming q_laws_toTiming x = true := by kernel_rfl
theorem ob_laws_toTiming : AllD df_laws_toTiming.body.obs := trivial
theorem st_laws_toTiming : fnSt df_laws_toTiming h_laws_toTiming q_laws_toTiming = true := by kernel_rfl
theorem sd_laws_toTiming : SoundD p_laws_toTiming D_laws_toTiming := by unfold p_laws_toTiming; exact soundD_of (f := df_laws_toTiming) (hs := h_laws_toTiming) (q := q_laws_toTiming) ob_laws_toTiming st_laws_toTiming ck_laws_toTiming (fun x h => by unfold ok_laws_toTiming at h; exact h) (fun x => by unfold v_laws_toTiming; rfl)

noncomputable def dc_laws_toEvent : DCode :=
  (.seq [2, 1] (.region [⟨0, some 1, .a false (.boxB 0 3 (.t 0)) none, none, []⟩,
    ⟨1, some 2, .a false (.allocB 1 [(.int .i64 0), (.int .i64 0), (.bool false)]) none, none, []⟩])
  (.seq [3, 2, 1] (.region [⟨0, some 3, .a false (.allocB 2 [(.int .i64 0), (.int .i64 0), (.bool false)]) none, none, []⟩])
  (.seq [3, 2, 1] (.region [⟨0, some 4, .a false (.fieldA 0 (.t 1)) none, none, []⟩,
    ⟨1, some 5, .a true (.loadB 0 none (.t 4)) none, none, []⟩,
    ⟨2, some 6, .a false (.fieldA 0 (.t 3)) none, none, []⟩,
    ⟨3, none, .a false (.storeB 2 1 (.t 6) (.t 5)) none, none, []⟩])
  (.seq [3, 2, 1] (.region [⟨0, some 7, .a false (.fieldA 1 (.t 1)) none, none, []⟩,
    ⟨1, some 8, .a true (.loadB 0 none (.t 7)) none, none, []⟩,
    ⟨2, some 9, .a false (.fieldA 1 (.t 3)) none, none, []⟩,
    ⟨3, none, .a false (.storeB 2 1 (.t 9) (.t 8)) none, none, []⟩])
  (.seq [3, 2] (.region [⟨0, some 10, .a false (.fieldA 2 (.t 1)) none, none, []⟩,
    ⟨1, some 11, .a true (.loadB 0 none (.t 10)) none, none, []⟩,
    ⟨2, some 12, .a false (.fieldA 2 (.t 3)) none, none, []⟩,
    ⟨3, none, .a false (.storeB 2 1 (.t 12) (.t 11)) none, none, []⟩])
  (.seq [2] (.region [⟨0, some 13, .a true (.loadB 2 (some 3) (.t 3)) none, none, []⟩,
    ⟨1, none, .a false (.storeB 1 3 (.t 2) (.t 13)) none, none, []⟩])
  .ret))))))
noncomputable def df_laws_toEvent : DFun := ⟨1, 14, 3, true, [.cell 2 (some 3)], dc_laws_toEvent⟩
noncomputable def pf_laws_toEvent : PFun := df_laws_toEvent.er
noncomputable def f_laws_toEvent : AFun := pf_laws_toEvent.er
@[irreducible] noncomputable def s_laws_toEvent : CallSem := funSem f_laws_toEvent
@[irreducible] noncomputable def p_laws_toEvent : PSem := pfunSem pf_laws_toEvent
theorem sp_laws_toEvent : SoundP s_laws_toEvent p_laws_toEvent := by unfold s_laws_toEvent p_laws_toEvent; exact pfun_sound (f := pf_laws_toEvent) trivial
def h_laws_toEvent : List HT := [.agg [(.frz, .int .i64), (.frz, .int .i64), (.frz, .bool)]]
def q_laws_toEvent : QT := .one (.agg [(.own, .int .i64), (.own, .int .i64), (.own, .bool)])
@[irreducible] noncomputable def v_laws_toEvent (x : Int × Int × Bool) : Int × Int × Bool := fnV df_laws_toEvent h_laws_toEvent q_laws_toEvent x
@[irreducible] noncomputable def ok_laws_toEvent (x : Int × Int × Bool) : Prop := fnOk df_laws_toEvent h_laws_toEvent q_laws_toEvent x
noncomputable def D_laws_toEvent : DSem := DSemOf h_laws_toEvent q_laws_toEvent ok_laws_toEvent v_laws_toEvent
theorem ck_laws_toEvent (x : Int × Int × Bool) : fnChk df_laws_toEvent h_laws_toEvent q_laws_toEvent x = true := by kernel_rfl
theorem ob_laws_toEvent : AllD df_laws_toEvent.body.obs := trivial
theorem st_laws_toEvent : fnSt df_laws_toEvent h_laws_toEvent q_laws_toEvent = true := by kernel_rfl
theorem sd_laws_toEvent : SoundD p_laws_toEvent D_laws_toEvent := by unfold p_laws_toEvent; exact soundD_of (f := df_laws_toEvent) (hs := h_laws_toEvent) (q := q_laws_toEvent) ob_laws_toEvent st_laws_toEvent ck_laws_toEvent (fun x h => by unfold ok_laws_toEvent at h; exact h) (fun x => by unfold v_laws_toEvent; rfl)

noncomputable def dc_laws_toEventS : DCode :=
  (.seq [0] (.region [⟨0, some 2, .a false (.mv (.c .nils)) none, none, []⟩])
  (.seq [3, 0] (.region [⟨0, some 5, .a true (.mv (.t 0)) none, none, []⟩,
    ⟨1, some 6, .a false (.len (.t 5)) none, none, []⟩,
    ⟨2, some 7, .a false (.mkSlice 3 [(.int .i64 0), (.int .i64 0), (.bool false)] (.t 6)) (some (.cons (.int .i64) (.cons (.int .i64) (.one (.bool))))), none, []⟩,
    ⟨3, some 3, .a false (.mv (.t 7)) none, none, []⟩])
  (.seq [3] (.seq [4, 3, 0] (.region [⟨0, some 4, .a false (.mv (.c (.int .i64 0))) none, none, []⟩])
  (.block 0 (.loop [0, 3, 4] 1 (.seq [4, 3, 0] (.seq [11, 4, 3, 0] (.region [⟨0, some 8, .a false (.mv (.t 4)) none, none, []⟩,
    ⟨1, some 9, .a true (.mv (.t 0)) none, none, []⟩,
    ⟨2, some 10, .a false (.len (.t 9)) none, none, []⟩,
    ⟨3, some 11, .a false (.bin .lss (.t 8) (.t 10)) none, none, []⟩])
  (.cond (.t 11) .skip (.exit 0)))
  (.seq [4, 3, 0] (.block 1 (.region [⟨0, some 14, .a true (.mv (.t 3)) none, none, []⟩,
    ⟨1, some 15, .a false (.mv (.t 4)) none, none, []⟩,
    ⟨2, some 16, .a true (.mv (.t 0)) none, none, []⟩,
    ⟨3, some 17, .a false (.mv (.t 4)) none, none, []⟩,
    ⟨4, some 18, .a false (.indexA 3 (.t 16) (.t 17)) none, none, []⟩,
    ⟨5, some 19, .a false (.loadH (some 3) (.t 18)) none, none, []⟩,
    ⟨6, some 20, .call false s_laws_toEvent p_laws_toEvent D_laws_toEvent [(.t 19)], none, []⟩,
    ⟨7, some 21, .a false (.indexA 3 (.t 14) (.t 15)) none, none, []⟩,
    ⟨8, none, .a false (.storeH 3 (.t 21) (.t 20)) none, none, []⟩]))
  (.region [⟨0, some 12, .a false (.mv (.t 4)) none, none, []⟩,
    ⟨1, some 13, .a false (.bin .add (.t 12) (.c (.int .i64 1))) none, none, []⟩,
    ⟨2, some 4, .a false (.mv (.t 13)) none, none, []⟩]))))))
  (.seq [2] (.region [⟨0, some 22, .a false (.mv (.t 3)) none, none, []⟩,
    ⟨1, some 2, .a false (.mv (.t 22)) none, none, []⟩])
  .ret))))
noncomputable def df_laws_toEventS : DFun := ⟨1, 23, 0, false, [.tmp 2], dc_laws_toEventS⟩
noncomputable def pf_laws_toEventS : PFun := df_laws_toEventS.er
noncomputable def f_laws_toEventS : AFun := pf_laws_toEventS.er
@[irreducible] noncomputable def s_laws_toEventS : CallSem := funSem f_laws_toEventS
@[irreducible] noncomputable def p_laws_toEventS : PSem := pfunSem pf_laws_toEventS
theorem sp_laws_toEventS : SoundP s_laws_toEventS p_laws_toEventS := by unfold s_laws_toEventS p_laws_toEventS; exact pfun_sound (f := pf_laws_toEventS) ⟨sp_laws_toEvent, trivial⟩
def h_laws_toEventS : List HT := [.one .frz (.sl (.cons (.int .i64) (.cons (.int .i64) (.one (.bool)))))]
def q_laws_toEventS : QT := .one (.one .own (.sl (.cons (.int .i64) (.cons (.int .i64) (.one (.bool))))))
@[irreducible] noncomputable def v_laws_toEventS (x : List (Int × Int × Bool)) : List (Int × Int × Bool) := fnV df_laws_toEventS h_laws_toEventS q_laws_toEventS x
@[irreducible] noncomputable def ok_laws_toEventS (x : List (Int × Int × Bool)) : Prop := fnOk df_laws_toEventS h_laws_toEventS q_laws_toEventS x
noncomputable def D_laws_toEventS : DSem := DSemOf h_laws_toEventS q_laws_toEventS ok_laws_toEventS v_laws_toEventS
theorem ck_laws_toEventS (x : List (Int × Int × Bool)) : fnChk df_laws_toEventS h_laws_toEventS q_laws_toEventS x = true := by kernel_rfl
theorem ob_laws_toEventS : AllD df_laws_toEventS.body.obs := ⟨sd_laws_toEvent, trivial⟩
theorem st_laws_toEventS : fnSt df_laws_toEventS h_laws_toEventS q_laws_toEventS = true := by kernel_rfl
theorem sd_laws_toEventS : SoundD p_laws_toEventS D_laws_toEventS := by unfold p_laws_toEventS; exact soundD_of (f := df_laws_toEventS) (hs := h_laws_toEventS) (q := q_laws_toEventS) ob_laws_toEventS st_laws_toEventS ck_laws_toEventS (fun x h => by unfold ok_laws_toEventS at h; exact h) (fun x => by unfold v_laws_toEventS; rfl)

noncomputable def dc_spec_IsTiming : DCode :=
  (.seq [1] (.region [⟨0, some 1, .a false (.boxB 0 3 (.t 0)) none, none, []⟩,
    ⟨1, some 2, .a false (.mv (.c (.bool false))) none, none, []⟩])
  (.seq [2] (.region [⟨0, some 3, .a false (.fieldA 0 (.t 1)) none, none, []⟩,
    ⟨1, some 4, .a false (.loadB 0 none (.t 3)) none, none, []⟩,
    ⟨2, some 5, .call false s_spec_l1In p_spec_l1In D_spec_l1In [(.t 4), (.c (.int .i64 1)), (.c (.int .i64 1000))], none, []⟩,
    ⟨3, some 6, .a false (.mv (.t 5)) none, none, []⟩,
    ⟨4, some 7, .a false (.fieldA 1 (.t 1)) none, (some (6, true)), []⟩,
    ⟨5, some 8, .a false (.loadB 0 none (.t 7)) none, (some (6, true)), []⟩,
    ⟨6, some 9, .call false s_spec_l1In p_spec_l1In D_spec_l1In [(.t 8), (.c (.int .i64 0)), (.c (.int .i64 1000))], (some (6, true)), []⟩,
    ⟨7, some 10, .a false (.pick (.t 6) (.t 9) (.c (.bool false))) none, none, []⟩,
    ⟨8, some 11, .a false (.mv (.t 10)) none, none, []⟩,
    ⟨9, some 12, .a false (.fieldA 2 (.t 1)) none, (some (11, true)), []⟩,
    ⟨10, some 13, .a false (.loadB 0 none (.t 12)) none, (some (11, true)), []⟩,
    ⟨11, some 14, .call false s_spec_l1In p_spec_l1In D_spec_l1In [(.t 13), (.c (.int .i64 0)), (.c (.int .i64 2))], (some (11, true)), []⟩,
    ⟨12, some 15, .a false (.pick (.t 11) (.t 14) (.c (.bool false))) none, none, []⟩,
    ⟨13, some 2, .a false (.mv (.t 15)) none, none, []⟩])
  .ret))
noncomputable def df_spec_IsTiming : DFun := ⟨1, 16, 1, true, [.tmp 2], dc_spec_IsTiming⟩
noncomputable def pf_spec_IsTiming : PFun := df_spec_IsTiming.er
noncomputable def f_spec_IsTiming : AFun := pf_spec_IsTiming.er
@[irreducible] noncomputable def s_spec_IsTiming : CallSem := funSem f_spec_IsTiming
@[irreducible] noncomputable def p_spec_IsTiming : PSem := pfunSem pf_spec_IsTiming
theorem sp_spec_IsTiming : SoundP s_spec_IsTiming p_spec_IsTiming := by unfold s_spec_IsTiming p_spec_IsTiming; exact pfun_sound (f := pf_spec_IsTiming) ⟨sp_spec_l1In, sp_spec_l1In, sp_spec_l1In, trivial⟩
def h_spec_IsTiming : List HT := [.agg [(.frz, .int .i64), (.frz, .int .i64), (.frz, .int .i64)]]
def q_spec_IsTiming : QT := .one (.one .own (.bool))
@[irreducible] noncomputable def v_spec_IsTiming (x : Int × Int × Int) : Bool := fnV df_spec_IsTiming h_spec_IsTiming q_spec_IsTiming x
@[irreducible] noncomputable def ok_spec_IsTiming (x : Int × Int × Int) : Prop := fnOk df_spec_IsTiming h_spec_IsTiming q_spec_IsTiming x
noncomputable def D_spec_IsTiming : DSem := DSemOf h_spec_IsTiming q_spec_IsTiming ok_spec_IsTiming v_spec_IsTiming
theorem ck_spec_IsTiming (x : Int × Int × Int) : fnChk df_spec_IsTiming h_spec_IsTiming q_spec_IsTiming x = true := by kernel_rfl
theorem ob_spec_IsTiming : AllD df_spec_IsTiming.body.obs := ⟨sd_spec_l1In, sd_spec_l1In, sd_spec_l1In, trivial⟩
theorem st_spec_IsTiming : fnSt df_spec_IsTiming h_spec_IsTiming q_spec_IsTiming = true := by kernel_rfl
theorem sd_spec_IsTiming : SoundD p_spec_IsTiming D_spec_IsTiming := by unfold p_spec_IsTiming; exact soundD_of (f := df_spec_IsTiming) (hs := h_spec_IsTiming) (q := q_spec_IsTiming) ob_spec_IsTiming st_spec_IsTiming ck_spec_IsTiming (fun x h => by unfold ok_spec_IsTiming at h; exact h) (fun x => by unfold v_spec_IsTiming; rfl)

noncomputable def dc_spec_IsEvent : DCode :=
  (.seq [1] (.region [⟨0, some 1, .a false (.boxB 0 3 (.t 0)) none, none, []⟩,
    ⟨1, some 2, .a false (.mv (.c (.bool false))) none, none, []⟩])
  (.seq [2] (.region [⟨0, some 3, .a false (.fieldA 0 (.t 1)) none, none, []⟩,
    ⟨1, some 4, .a false (.loadB 0 none (.t 3)) none, none, []⟩,
    ⟨2, some 5, .call false s_spec_l1In p_spec_l1In D_spec_l1In [(.t 4), (.c (.int .i64 0)), (.c (.int .i64 1000000))], none, []⟩,
    ⟨3, some 6, .a false (.mv (.t 5)) none, none, []⟩,
    ⟨4, some 7, .a false (.fieldA 1 (.t 1)) none, (some (6, true)), []⟩,
    ⟨5, some 8, .a false (.loadB 0 none (.t 7)) none, (some (6, true)), []⟩,
    ⟨6, some 9, .call false s_spec_l1In p_spec_l1In D_spec_l1In [(.t 8), (.c (.int .i64 0)), (.c (.int .i64 31))], (some (6, true)), []⟩,
    ⟨7, some 10, .a false (.pick (.t 6) (.t 9) (.c (.bool false))) none, none, []⟩,
    ⟨8, some 2, .a false (.mv (.t 10)) none, none, []⟩])
  .ret))
noncomputable def df_spec_IsEvent : DFun := ⟨1, 11, 1, true, [.tmp 2], dc_spec_IsEvent⟩
noncomputable def pf_spec_IsEvent : PFun := df_spec_IsEvent.er
noncomputable def f_spec_IsEvent : AFun := pf_spec_IsEvent.er
@[irreducible] noncomputable def s_spec_IsEvent : CallSem := funSem f_spec_IsEvent
@[irreducible] noncomputable def p_spec_IsEvent : PSem := pfunSem pf_spec_IsEvent
theorem sp_spec_IsEvent : SoundP s_spec_IsEvent p_spec_IsEvent := by unfold s_spec_IsEvent p_spec_IsEvent; exact pfun_sound (f := pf_spec_IsEvent) ⟨sp_spec_l1In, sp_spec_l1In, trivial⟩
def h_spec_IsEvent : List HT := [.agg [(.frz, .int .i64), (.frz, .int .i64), (.frz, .bool)]]
def q_spec_IsEvent : QT := .one (.one .own (.bool))
@[irreducible] noncomputable def v_spec_IsEvent (x : Int × Int × Bool) : Bool := fnV df_spec_IsEvent h_spec_IsEvent q_spec_IsEvent x
@[irreducible] noncomputable def ok_spec_IsEvent (x : Int × Int × Bool) : Prop := fnOk df_spec_IsEvent h_spec_IsEvent q_spec_IsEvent x
noncomputable def D_spec_IsEvent : DSem := DSemOf h_spec_IsEvent q_spec_IsEvent ok_spec_IsEvent v_spec_IsEvent
theorem ck_spec_IsEvent (x : Int × Int × Bool) : fnChk df_spec_IsEvent h_spec_IsEvent q_spec_IsEvent x = true := by kernel_rfl
theorem ob_spec_IsEvent : AllD df_spec_IsEvent.body.obs := ⟨sd_spec_l1In, sd_spec_l1In, trivial⟩
theorem st_spec_IsEvent : fnSt df_spec_IsEvent h_spec_IsEvent q_spec_IsEvent = true := by kernel_rfl
theorem sd_spec_IsEvent : SoundD p_spec_IsEvent D_spec_IsEvent := by unfold p_spec_IsEvent; exact soundD_of (f := df_spec_IsEvent) (hs := h_spec_IsEvent) (q := q_spec_IsEvent) ob_spec_IsEvent st_spec_IsEvent ck_spec_IsEvent (fun x h => by unfold ok_spec_IsEvent at h; exact h) (fun x => by unfold v_spec_IsEvent; rfl)

noncomputable def dc_spec_ChoiceOf : DCode :=
  (.seq [5, 4, 3, 2, 1] (.region [⟨0, some 5, .a false (.boxB 0 3 (.t 0)) none, none, []⟩,
    ⟨1, some 10, .a false (.mv (.c (.int .i64 0))) none, none, []⟩,
    ⟨2, some 11, .a false (.mv (.c (.int .i64 0))) none, none, []⟩])
  (.seq [5, 4, 3, 2, 1] (.seq [23, 5, 4, 3, 2, 1] (.region [⟨0, some 16, .a false (.loadB 0 (some 3) (.t 5)) none, none, []⟩,
    ⟨1, some 17, .call false s_spec_IsTiming p_spec_IsTiming D_spec_IsTiming [(.t 16)], none, []⟩,
    ⟨2, some 18, .a false (.un .not (.t 17)) none, none, []⟩,
    ⟨3, some 19, .a false (.mv (.t 18)) none, none, []⟩,
    ⟨4, some 20, .a false (.mv (.t 2)) none, (some (19, false)), []⟩,
    ⟨5, some 21, .call false s_spec_l1In p_spec_l1In D_spec_l1In [(.t 20), (.c (.int .i64 0)), (.c (.int .i64 1000000))], (some (19, false)), []⟩,
    ⟨6, some 22, .a false (.un .not (.t 21)) none, (some (19, false)), []⟩,
    ⟨7, some 23, .a false (.pick (.t 19) (.c (.bool true)) (.t 22)) none, none, []⟩])
  (.cond (.t 23) (.seq [11, 10] (.region [⟨0, some 10, .a false (.mv (.c (.int .i64 0))) none, none, []⟩,
    ⟨1, some 11, .a false (.mv (.c (.int .i64 0))) none, none, []⟩])
  .ret) .skip))
  (.seq [12, 5, 4, 3, 1] (.region [⟨0, some 24, .a false (.mv (.t 2)) none, none, []⟩,
    ⟨1, some 25, .a false (.fieldA 0 (.t 5)) none, none, []⟩,
    ⟨2, some 26, .a false (.loadB 0 none (.t 25)) none, none, []⟩,
    ⟨3, some 27, .a false (.bin .add (.t 24) (.t 26)) none, none, []⟩,
    ⟨4, some 12, .a false (.mv (.t 27)) none, none, []⟩])
  (.seq [13, 12, 5, 4, 3, 1] (.region [⟨0, some 13, .a false (.mv (.c (.int .i64 0))) none, none, []⟩])
  (.seq [12, 4] (.seq [14, 13, 12, 5, 4, 3, 1] (.region [⟨0, some 14, .a false (.mv (.c (.int .i64 0))) none, none, []⟩])
  (.block 0 (.loop [1, 3, 4, 5, 12, 13, 14] 1 (.seq [14, 13, 12, 5, 4, 3, 1] (.seq [31, 14, 13, 12, 5, 4, 3, 1] (.region [⟨0, some 28, .a false (.mv (.t 14)) none, none, []⟩,
    ⟨1, some 29, .a true (.mv (.t 3)) none, none, []⟩,
    ⟨2, some 30, .a false (.len (.t 29)) none, none, []⟩,
    ⟨3, some 31, .a false (.bin .lss (.t 28) (.t 30)) none, none, []⟩])
  (.cond (.t 31) .skip (.exit 0)))
  (.seq [14, 13, 12, 5, 4, 3, 1] (.block 1 (.seq [15, 14, 13, 12, 5, 4, 3, 1] (.region [⟨0, some 34, .a true (.mv (.t 3)) none, none, []⟩,
    ⟨1, some 35, .a false (.mv (.t 14)) none, none, []⟩,
    ⟨2, some 36, .a false (.indexA 3 (.t 34) (.t 35)) none, none, []⟩,
    ⟨3, some 37, .a true (.loadH (some 3) (.t 36)) none, none, []⟩,
    ⟨4, some 15, .a false (.allocB 1 [(.int .i64 0), (.int .i64 0), (.bool false)]) none, none, []⟩,
    ⟨5, none, .a false (.storeB 1 3 (.t 15) (.t 37)) none, none, []⟩])
  (.block 2 (.seq [38, 15, 14, 13, 12, 5, 4, 3, 1] (.region [⟨0, some 39, .a false (.loadB 1 (some 3) (.t 15)) none, none, []⟩,
    ⟨1, some 40, .call false s_spec_IsEvent p_spec_IsEvent D_spec_IsEvent [(.t 39)], none, []⟩,
    ⟨2, some 41, .a false (.un .not (.t 40)) none, none, []⟩,
    ⟨3, some 38, .a false (.mv (.t 41)) none, none, []⟩])
  (.cond (.t 38) (.seq [11, 10] (.region [⟨0, some 10, .a false (.mv (.c (.int .i64 0))) none, none, []⟩,
    ⟨1, some 11, .a false (.mv (.c (.int .i64 0))) none, none, []⟩])
  .ret) (.seq [42, 15, 14, 13, 12, 5, 4, 3, 1] (.region [⟨0, some 43, .a false (.fieldA 0 (.t 15)) none, none, []⟩,
    ⟨1, some 44, .a false (.loadB 1 none (.t 43)) none, none, []⟩,
    ⟨2, some 45, .a false (.mv (.t 12)) none, none, []⟩,
    ⟨3, some 46, .a false (.bin .geq (.t 44) (.t 45)) none, none, []⟩,
    ⟨4, some 42, .a false (.mv (.t 46)) none, none, []⟩])
  (.cond (.t 42) (.seq [11, 10] (.region [⟨0, some 47, .a false (.mv (.t 12)) none, none, []⟩,
    ⟨1, some 10, .a false (.mv (.c (.int .i64 2))) none, none, []⟩,
    ⟨2, some 11, .a false (.mv (.t 47)) none, none, []⟩])
  .ret) (.seq [48, 15, 14, 13, 12, 5, 4, 3, 1] (.region [⟨0, some 49, .a false (.fieldA 1 (.t 15)) none, none, []⟩,
    ⟨1, some 50, .a false (.loadB 1 none (.t 49)) none, none, []⟩,
    ⟨2, some 51, .a false (.mv (.t 1)) none, none, []⟩,
    ⟨3, some 52, .a false (.bin .eql (.t 50) (.t 51)) none, none, []⟩,
    ⟨4, some 53, .a false (.mv (.t 52)) none, none, []⟩,
    ⟨5, some 54, .a false (.fieldA 2 (.t 15)) none, (some (53, true)), []⟩,
    ⟨6, some 55, .a false (.loadB 1 none (.t 54)) none, (some (53, true)), []⟩,
    ⟨7, some 56, .a false (.un .not (.t 55)) none, (some (53, true)), []⟩,
    ⟨8, some 57, .a false (.pick (.t 53) (.t 56) (.c (.bool false))) none, none, []⟩,
    ⟨9, some 48, .a false (.mv (.t 57)) none, none, []⟩])
  (.cond (.t 48) (.seq [11, 10] (.region [⟨0, some 58, .a false (.fieldA 0 (.t 15)) none, none, []⟩,
    ⟨1, some 59, .a true (.loadB 1 none (.t 58)) none, none, [0]⟩,
    ⟨2, some 10, .a false (.mv (.c (.int .i64 1))) none, none, []⟩,
    ⟨3, some 11, .a false (.mv (.t 59)) none, none, [0, 1, 2]⟩])
  .ret) (.seq [60, 15, 14, 13, 12, 5, 4, 3, 1] (.region [⟨0, some 61, .a false (.fieldA 1 (.t 15)) none, none, []⟩,
    ⟨1, some 62, .a false (.loadB 1 none (.t 61)) none, none, []⟩,
    ⟨2, some 63, .a false (.mv (.t 1)) none, none, []⟩,
    ⟨3, some 64, .a false (.bin .eql (.t 62) (.t 63)) none, none, []⟩,
    ⟨4, some 60, .a false (.mv (.t 64)) none, none, []⟩])
  (.cond (.t 60) (.exit 1) (.seq [65, 15, 14, 13, 12, 5, 4, 3, 1] (.region [⟨0, some 66, .a false (.fieldA 2 (.t 15)) none, none, []⟩,
    ⟨1, some 67, .a false (.loadB 1 none (.t 66)) none, none, []⟩,
    ⟨2, some 68, .a false (.mv (.t 67)) none, none, []⟩,
    ⟨3, some 69, .a false (.fieldA 2 (.t 5)) none, (some (68, true)), []⟩,
    ⟨4, some 70, .a false (.loadB 0 none (.t 69)) none, (some (68, true)), []⟩,
    ⟨5, some 71, .a false (.bin .eql (.t 70) (.c (.int .i64 1))) none, (some (68, true)), []⟩,
    ⟨6, some 72, .a false (.pick (.t 68) (.t 71) (.c (.bool false))) none, none, []⟩,
    ⟨7, some 65, .a false (.mv (.t 72)) none, none, []⟩])
  (.cond (.t 65) (.seq [11, 10] (.region [⟨0, some 73, .a false (.fieldA 0 (.t 15)) none, none, []⟩,
    ⟨1, some 74, .a true (.loadB 1 none (.t 73)) none, none, [0]⟩,
    ⟨2, some 10, .a false (.mv (.c (.int .i64 2))) none, none, []⟩,
    ⟨3, some 11, .a false (.mv (.t 74)) none, none, [0, 1, 2]⟩])
  .ret) (.seq [75, 15, 14, 13, 12, 5, 4, 3, 1] (.region [⟨0, some 76, .a false (.fieldA 2 (.t 15)) none, none, []⟩,
    ⟨1, some 77, .a false (.loadB 1 none (.t 76)) none, none, []⟩,
    ⟨2, some 75, .a false (.mv (.t 77)) none, none, []⟩])
  (.cond (.t 75) (.region [⟨0, some 78, .a false (.mv (.t 13)) none, none, []⟩,
    ⟨1, some 79, .a false (.fieldA 1 (.t 15)) none, none, []⟩,
    ⟨2, some 80, .a false (.loadB 1 none (.t 79)) none, none, []⟩,
    ⟨3, some 81, .a false (.bin .shl (.c (.int .i64 1)) (.t 80)) none, none, []⟩,
    ⟨4, some 82, .a false (.bin .or (.t 78) (.t 81)) none, none, []⟩,
    ⟨5, some 13, .a false (.mv (.t 82)) none, none, []⟩]) (.seq [83, 15, 14, 13, 12, 5, 4, 3, 1] (.region [⟨0, some 84, .a false (.fieldA 2 (.t 5)) none, none, []⟩,
    ⟨1, some 85, .a false (.loadB 0 none (.t 84)) none, none, []⟩,
    ⟨2, some 86, .a false (.bin .eql (.t 85) (.c (.int .i64 2))) none, none, []⟩,
    ⟨3, some 87, .a false (.mv (.t 86)) none, none, []⟩,
    ⟨4, some 88, .a false (.mv (.t 13)) none, (some (87, true)), []⟩,
    ⟨5, some 89, .a false (.fieldA 1 (.t 15)) none, (some (87, true)), []⟩,
    ⟨6, some 90, .a false (.loadB 1 none (.t 89)) none, (some (87, true)), []⟩,
    ⟨7, some 91, .a false (.bin .shr (.t 88) (.t 90)) none, (some (87, true)), []⟩,
    ⟨8, some 92, .a false (.bin .and (.t 91) (.c (.int .i64 1))) none, (some (87, true)), []⟩,
    ⟨9, some 93, .a false (.bin .eql (.t 92) (.c (.int .i64 1))) none, (some (87, true)), []⟩,
    ⟨10, some 94, .a false (.pick (.t 87) (.t 93) (.c (.bool false))) none, none, []⟩,
    ⟨11, some 83, .a false (.mv (.t 94)) none, none, []⟩])
  (.cond (.t 83) (.seq [11, 10] (.region [⟨0, some 95, .a false (.fieldA 0 (.t 15)) none, none, []⟩,
    ⟨1, some 96, .a true (.loadB 1 none (.t 95)) none, none, [0]⟩,
    ⟨2, some 10, .a false (.mv (.c (.int .i64 2))) none, none, []⟩,
    ⟨3, some 11, .a false (.mv (.t 96)) none, none, [0, 1, 2]⟩])
  .ret) .skip)))))))))))))))))
  (.region [⟨0, some 32, .a false (.mv (.t 14)) none, none, []⟩,
    ⟨1, some 33, .a false (.bin .add (.t 32) (.c (.int .i64 1))) none, none, []⟩,
    ⟨2, some 14, .a false (.mv (.t 33)) none, none, []⟩]))))))
  (.seq [] (.seq [99, 12] (.region [⟨0, some 97, .a false (.mv (.t 4)) none, none, []⟩,
    ⟨1, some 98, .a false (.mv (.t 12)) none, none, []⟩,
    ⟨2, some 99, .a false (.bin .geq (.t 97) (.t 98)) none, none, []⟩])
  (.cond (.t 99) (.seq [11, 10] (.region [⟨0, some 100, .a false (.mv (.t 12)) none, none, []⟩,
    ⟨1, some 10, .a false (.mv (.c (.int .i64 2))) none, none, []⟩,
    ⟨2, some 11, .a false (.mv (.t 100)) none, none, []⟩])
  .ret) .skip))
  (.seq [11, 10] (.region [⟨0, some 10, .a false (.mv (.c (.int .i64 0))) none, none, []⟩,
    ⟨1, some 11, .a false (.mv (.c (.int .i64 0))) none, none, []⟩])
  .ret)))))))
noncomputable def df_spec_ChoiceOf : DFun := ⟨5, 101, 2, true, [.tmp 10, .tmp 11], dc_spec_ChoiceOf⟩
noncomputable def pf_spec_ChoiceOf : PFun := df_spec_ChoiceOf.er
noncomputable def f_spec_ChoiceOf : AFun := pf_spec_ChoiceOf.er
@[irreducible] noncomputable def s_spec_ChoiceOf : CallSem := funSem f_spec_ChoiceOf
@[irreducible] noncomputable def p_spec_ChoiceOf : PSem := pfunSem pf_spec_ChoiceOf
theorem sp_spec_ChoiceOf : SoundP s_spec_ChoiceOf p_spec_ChoiceOf := by unfold s_spec_ChoiceOf p_spec_ChoiceOf; exact pfun_sound (f := pf_spec_ChoiceOf) ⟨sp_spec_IsTiming, sp_spec_l1In, sp_spec_IsEvent, trivial⟩
def h_spec_ChoiceOf : List HT := [.agg [(.frz, .int .i64), (.frz, .int .i64), (.frz, .int .i64)], .one .frz (.int .i64), .one .frz (.int .i64), .one .frz (.sl (.cons (.int .i64) (.cons (.int .i64) (.one (.bool))))), .one .frz (.int .i64)]
def q_spec_ChoiceOf : QT := .tup [.one .own (.int .i64), .one .own (.int .i64)]
@[irreducible] noncomputable def v_spec_ChoiceOf (x : (Int × Int × Int) × Int × Int × (List (Int × Int × Bool)) × Int) : Int × Int := fnV df_spec_ChoiceOf h_spec_ChoiceOf q_spec_ChoiceOf x
@[irreducible] noncomputable def ok_spec_ChoiceOf (x : (Int × Int × Int) × Int × Int × (List (Int × Int × Bool)) × Int) : Prop := fnOk df_spec_ChoiceOf h_spec_ChoiceOf q_spec_ChoiceOf x
noncomputable def D_spec_ChoiceOf : DSem := DSemOf h_spec_ChoiceOf q_spec_ChoiceOf ok_spec_ChoiceOf v_spec_ChoiceOf
theorem ck_spec_ChoiceOf (x : (Int × Int × Int) × Int × Int × (List (Int × Int × Bool)) × Int) : fnChk df_spec_ChoiceOf h_spec_ChoiceOf q_spec_ChoiceOf x = true := by kernel_rfl
theorem ob_spec_ChoiceOf : AllD df_spec_ChoiceOf.body.obs := ⟨sd_spec_IsTiming, sd_spec_l1In, sd_spec_IsEvent, trivial⟩
theorem st_spec_ChoiceOf : fnSt df_spec_ChoiceOf h_spec_ChoiceOf q_spec_ChoiceOf = true := by kernel_rfl
theorem sd_spec_ChoiceOf : SoundD p_spec_ChoiceOf D_spec_ChoiceOf := by unfold p_spec_ChoiceOf; exact soundD_of (f := df_spec_ChoiceOf) (hs := h_spec_ChoiceOf) (q := q_spec_ChoiceOf) ob_spec_ChoiceOf st_spec_ChoiceOf ck_spec_ChoiceOf (fun x h => by unfold ok_spec_ChoiceOf at h; exact h) (fun x => by unfold v_spec_ChoiceOf; rfl)

noncomputable def dc_impl_IsTiming : DCode :=
  (.seq [1] (.region [⟨0, some 1, .a false (.boxB 0 3 (.t 0)) none, none, []⟩,
    ⟨1, some 2, .a false (.mv (.c (.bool false))) none, none, []⟩])
  (.seq [2] (.region [⟨0, some 3, .a false (.fieldA 0 (.t 1)) none, none, []⟩,
    ⟨1, some 4, .a false (.loadB 0 none (.t 3)) none, none, []⟩,
    ⟨2, some 5, .a false (.bin .geq (.t 4) (.c (.int .i64 1))) none, none, []⟩,
    ⟨3, some 6, .a false (.mv (.t 5)) none, none, []⟩,
    ⟨4, some 7, .a false (.fieldA 0 (.t 1)) none, (some (6, true)), []⟩,
    ⟨5, some 8, .a false (.loadB 0 none (.t 7)) none, (some (6, true)), []⟩,
    ⟨6, some 9, .a false (.bin .leq (.t 8) (.c (.int .i64 1000))) none, (some (6, true)), []⟩,
    ⟨7, some 10, .a false (.pick (.t 6) (.t 9) (.c (.bool false))) none, none, []⟩,
    ⟨8, some 11, .a false (.mv (.t 10)) none, none, []⟩,
    ⟨9, some 12, .a false (.fieldA 1 (.t 1)) none, (some (11, true)), []⟩,
    ⟨10, some 13, .a false (.loadB 0 none (.t 12)) none, (some (11, true)), []⟩,
    ⟨11, some 14, .a false (.bin .geq (.t 13) (.c (.int .i64 0))) none, (some (11, true)), []⟩,
    ⟨12, some 15, .a false (.pick (.t 11) (.t 14) (.c (.bool false))) none, none, []⟩,
    ⟨13, some 16, .a false (.mv (.t 15)) none, none, []⟩,
    ⟨14, some 17, .a false (.fieldA 1 (.t 1)) none, (some (16, true)), []⟩,
    ⟨15, some 18, .a false (.loadB 0 none (.t 17)) none, (some (16, true)), []⟩,
    ⟨16, some 19, .a false (.bin .leq (.t 18) (.c (.int .i64 1000))) none, (some (16, true)), []⟩,
    ⟨17, some 20, .a false (.pick (.t 16) (.t 19) (.c (.bool false))) none, none, []⟩,
    ⟨18, some 21, .a false (.mv (.t 20)) none, none, []⟩,
    ⟨19, some 22, .a false (.fieldA 2 (.t 1)) none, (some (21, true)), []⟩,
    ⟨20, some 23, .a false (.loadB 0 none (.t 22)) none, (some (21, true)), []⟩,
    ⟨21, some 24, .a false (.bin .geq (.t 23) (.c (.int .i64 0))) none, (some (21, true)), []⟩,
    ⟨22, some 25, .a false (.pick (.t 21) (.t 24) (.c (.bool false))) none, none, []⟩,
    ⟨23, some 26, .a false (.mv (.t 25)) none, none, []⟩,
    ⟨24, some 27, .a false (.fieldA 2 (.t 1)) none, (some (26, true)), []⟩,
    ⟨25, some 28, .a false (.loadB 0 none (.t 27)) none, (some (26, true)), []⟩,
    ⟨26, some 29, .a false (.bin .leq (.t 28) (.c (.int .i64 2))) none, (some (26, true)), []⟩,
    ⟨27, some 30, .a false (.pick (.t 26) (.t 29) (.c (.bool false))) none, none, []⟩,
    ⟨28, some 2, .a false (.mv (.t 30)) none, none, []⟩])
  .ret))
noncomputable def df_impl_IsTiming : DFun := ⟨1, 31, 1, true, [.tmp 2], dc_impl_IsTiming⟩
noncomputable def pf_impl_IsTiming : PFun := df_impl_IsTiming.er
noncomputable def f_impl_IsTiming : AFun := pf_impl_IsTiming.er
@[irreducible] noncomputable def s_impl_IsTiming : CallSem := funSem f_impl_IsTiming
@[irreducible] noncomputable def p_impl_IsTiming : PSem := pfunSem pf_impl_IsTiming
theorem sp_impl_IsTiming : SoundP s_impl_IsTiming p_impl_IsTiming := by unfold s_impl_IsTiming p_impl_IsTiming; exact pfun_sound (f := pf_impl_IsTiming) trivial
def h_impl_IsTiming : List HT := [.agg [(.frz, .int .i64), (.frz, .int .i64), (.frz, .int .i64)]]
def q_impl_IsTiming : QT := .one (.one .own (.bool))
@[irreducible] noncomputable def v_impl_IsTiming (x : Int × Int × Int) : Bool := fnV df_impl_IsTiming h_impl_IsTiming q_impl_IsTiming x
@[irreducible] noncomputable def ok_impl_IsTiming (x : Int × Int × Int) : Prop := fnOk df_impl_IsTiming h_impl_IsTiming q_impl_IsTiming x
noncomputable def D_impl_IsTiming : DSem := DSemOf h_impl_IsTiming q_impl_IsTiming ok_impl_IsTiming v_impl_IsTiming
theorem ck_impl_IsTiming (x : Int × Int × Int) : fnChk df_impl_IsTiming h_impl_IsTiming q_impl_IsTiming x = true := by kernel_rfl
theorem ob_impl_IsTiming : AllD df_impl_IsTiming.body.obs := trivial
theorem st_impl_IsTiming : fnSt df_impl_IsTiming h_impl_IsTiming q_impl_IsTiming = true := by kernel_rfl
theorem sd_impl_IsTiming : SoundD p_impl_IsTiming D_impl_IsTiming := by unfold p_impl_IsTiming; exact soundD_of (f := df_impl_IsTiming) (hs := h_impl_IsTiming) (q := q_impl_IsTiming) ob_impl_IsTiming st_impl_IsTiming ck_impl_IsTiming (fun x h => by unfold ok_impl_IsTiming at h; exact h) (fun x => by unfold v_impl_IsTiming; rfl)

noncomputable def dc_impl_IsEvent : DCode :=
  (.seq [1] (.region [⟨0, some 1, .a false (.boxB 0 3 (.t 0)) none, none, []⟩,
    ⟨1, some 2, .a false (.mv (.c (.bool false))) none, none, []⟩])
  (.seq [2] (.region [⟨0, some 3, .a false (.fieldA 0 (.t 1)) none, none, []⟩,
    ⟨1, some 4, .a false (.loadB 0 none (.t 3)) none, none, []⟩,
    ⟨2, some 5, .a false (.bin .geq (.t 4) (.c (.int .i64 0))) none, none, []⟩,
    ⟨3, some 6, .a false (.mv (.t 5)) none, none, []⟩,
    ⟨4, some 7, .a false (.fieldA 0 (.t 1)) none, (some (6, true)), []⟩,
    ⟨5, some 8, .a false (.loadB 0 none (.t 7)) none, (some (6, true)), []⟩,
    ⟨6, some 9, .a false (.bin .leq (.t 8) (.c (.int .i64 1000000))) none, (some (6, true)), []⟩,
    ⟨7, some 10, .a false (.pick (.t 6) (.t 9) (.c (.bool false))) none, none, []⟩,
    ⟨8, some 11, .a false (.mv (.t 10)) none, none, []⟩,
    ⟨9, some 12, .a false (.fieldA 1 (.t 1)) none, (some (11, true)), []⟩,
    ⟨10, some 13, .a false (.loadB 0 none (.t 12)) none, (some (11, true)), []⟩,
    ⟨11, some 14, .a false (.bin .geq (.t 13) (.c (.int .i64 0))) none, (some (11, true)), []⟩,
    ⟨12, some 15, .a false (.pick (.t 11) (.t 14) (.c (.bool false))) none, none, []⟩,
    ⟨13, some 16, .a false (.mv (.t 15)) none, none, []⟩,
    ⟨14, some 17, .a false (.fieldA 1 (.t 1)) none, (some (16, true)), []⟩,
    ⟨15, some 18, .a false (.loadB 0 none (.t 17)) none, (some (16, true)), []⟩,
    ⟨16, some 19, .a false (.bin .leq (.t 18) (.c (.int .i64 31))) none, (some (16, true)), []⟩,
    ⟨17, some 20, .a false (.pick (.t 16) (.t 19) (.c (.bool false))) none, none, []⟩,
    ⟨18, some 2, .a false (.mv (.t 20)) none, none, []⟩])
  .ret))
noncomputable def df_impl_IsEvent : DFun := ⟨1, 21, 1, true, [.tmp 2], dc_impl_IsEvent⟩
noncomputable def pf_impl_IsEvent : PFun := df_impl_IsEvent.er
noncomputable def f_impl_IsEvent : AFun := pf_impl_IsEvent.er
@[irreducible] noncomputable def s_impl_IsEvent : CallSem := funSem f_impl_IsEvent
@[irreducible] noncomputable def p_impl_IsEvent : PSem := pfunSem pf_impl_IsEvent
theorem sp_impl_IsEvent : SoundP s_impl_IsEvent p_impl_IsEvent := by unfold s_impl_IsEvent p_impl_IsEvent; exact pfun_sound (f := pf_impl_IsEvent) trivial
def h_impl_IsEvent : List HT := [.agg [(.frz, .int .i64), (.frz, .int .i64), (.frz, .bool)]]
def q_impl_IsEvent : QT := .one (.one .own (.bool))
@[irreducible] noncomputable def v_impl_IsEvent (x : Int × Int × Bool) : Bool := fnV df_impl_IsEvent h_impl_IsEvent q_impl_IsEvent x
@[irreducible] noncomputable def ok_impl_IsEvent (x : Int × Int × Bool) : Prop := fnOk df_impl_IsEvent h_impl_IsEvent q_impl_IsEvent x
noncomputable def D_impl_IsEvent : DSem := DSemOf h_impl_IsEvent q_impl_IsEvent ok_impl_IsEvent v_impl_IsEvent
theorem ck_impl_IsEvent (x : Int × Int × Bool) : fnChk df_impl_IsEvent h_impl_IsEvent q_impl_IsEvent x = true := by kernel_rfl
theorem ob_impl_IsEvent : AllD df_impl_IsEvent.body.obs := trivial
theorem st_impl_IsEvent : fnSt df_impl_IsEvent h_impl_IsEvent q_impl_IsEvent = true := by kernel_rfl
theorem sd_impl_IsEvent : SoundD p_impl_IsEvent D_impl_IsEvent := by unfold p_impl_IsEvent; exact soundD_of (f := df_impl_IsEvent) (hs := h_impl_IsEvent) (q := q_impl_IsEvent) ob_impl_IsEvent st_impl_IsEvent ck_impl_IsEvent (fun x h => by unfold ok_impl_IsEvent at h; exact h) (fun x => by unfold v_impl_IsEvent; rfl)

noncomputable def dc_impl_ChoiceOf : DCode :=
  (.seq [5, 4, 3, 2, 1] (.region [⟨0, some 5, .a false (.boxB 0 3 (.t 0)) none, none, []⟩,
    ⟨1, some 10, .a false (.mv (.c (.int .i64 0))) none, none, []⟩,
    ⟨2, some 11, .a false (.mv (.c (.int .i64 0))) none, none, []⟩])
  (.seq [5, 4, 3, 2, 1] (.seq [25, 5, 4, 3, 2, 1] (.region [⟨0, some 15, .a false (.loadB 0 (some 3) (.t 5)) none, none, []⟩,
    ⟨1, some 16, .call false s_impl_IsTiming p_impl_IsTiming D_impl_IsTiming [(.t 15)], none, []⟩,
    ⟨2, some 17, .a false (.un .not (.t 16)) none, none, []⟩,
    ⟨3, some 18, .a false (.mv (.t 17)) none, none, []⟩,
    ⟨4, some 19, .a false (.mv (.t 2)) none, (some (18, false)), []⟩,
    ⟨5, some 20, .a false (.bin .lss (.t 19) (.c (.int .i64 0))) none, (some (18, false)), []⟩,
    ⟨6, some 21, .a false (.pick (.t 18) (.c (.bool true)) (.t 20)) none, none, []⟩,
    ⟨7, some 22, .a false (.mv (.t 21)) none, none, []⟩,
    ⟨8, some 23, .a false (.mv (.t 2)) none, (some (22, false)), []⟩,
    ⟨9, some 24, .a false (.bin .gtr (.t 23) (.c (.int .i64 1000000))) none, (some (22, false)), []⟩,
    ⟨10, some 25, .a false (.pick (.t 22) (.c (.bool true)) (.t 24)) none, none, []⟩])
  (.cond (.t 25) (.seq [11, 10] (.region [⟨0, some 10, .a false (.mv (.c (.int .i64 0))) none, none, []⟩,
    ⟨1, some 11, .a false (.mv (.c (.int .i64 0))) none, none, []⟩])
  .ret) .skip))
  (.seq [12, 5, 4, 3, 2, 1] (.region [⟨0, some 12, .a false (.mv (.c (.int .i64 0))) none, none, []⟩])
  (.seq [5, 4, 2] (.seq [28, 27, 26, 12, 5, 4, 2, 1] (.region [⟨0, some 26, .a true (.mv (.t 3)) none, none, []⟩,
    ⟨1, some 27, .a false (.len (.t 26)) none, none, []⟩,
    ⟨2, some 28, .a false (.mv (.c (.int .i64 0))) none, none, []⟩])
  (.block 0 (.loop [1, 2, 4, 5, 12, 26, 27, 28] 1 (.seq [29, 28, 27, 26, 12, 5, 4, 2, 1] (.region [⟨0, some 29, .a false (.bin .lss (.t 28) (.t 27)) none, none, []⟩])
  (.seq [28, 27, 26, 12, 5, 4, 2, 1] (.cond (.t 29) .skip (.exit 0))
  (.seq [28, 27, 26, 12, 5, 4, 2, 1] (.block 1 (.seq [28, 27, 26, 14, 12, 5, 4, 2, 1] (.region [⟨0, some 30, .a false (.indexA 3 (.t 26) (.t 28)) none, none, []⟩,
    ⟨1, some 31, .a true (.loadH (some 3) (.t 30)) none, none, []⟩,
    ⟨2, some 14, .a false (.allocB 1 [(.int .i64 0), (.int .i64 0), (.bool false)]) none, none, []⟩,
    ⟨3, none, .a false (.storeB 1 3 (.t 14) (.t 31)) none, none, []⟩])
  (.block 2 (.seq [32, 28, 27, 26, 14, 12, 5, 4, 2, 1] (.region [⟨0, some 33, .a false (.loadB 1 (some 3) (.t 14)) none, none, []⟩,
    ⟨1, some 34, .call false s_impl_IsEvent p_impl_IsEvent D_impl_IsEvent [(.t 33)], none, []⟩,
    ⟨2, some 35, .a false (.un .not (.t 34)) none, none, []⟩,
    ⟨3, some 32, .a false (.mv (.t 35)) none, none, []⟩])
  (.cond (.t 32) (.seq [11, 10] (.region [⟨0, some 10, .a false (.mv (.c (.int .i64 0))) none, none, []⟩,
    ⟨1, some 11, .a false (.mv (.c (.int .i64 0))) none, none, []⟩])
  .ret) (.seq [36, 28, 27, 26, 14, 12, 5, 4, 2, 1] (.region [⟨0, some 37, .a false (.fieldA 0 (.t 14)) none, none, []⟩,
    ⟨1, some 38, .a false (.loadB 1 none (.t 37)) none, none, []⟩,
    ⟨2, some 39, .a false (.mv (.t 2)) none, none, []⟩,
    ⟨3, some 40, .a false (.fieldA 0 (.t 5)) none, none, []⟩,
    ⟨4, some 41, .a false (.loadB 0 none (.t 40)) none, none, []⟩,
    ⟨5, some 42, .a false (.bin .add (.t 39) (.t 41)) none, none, []⟩,
    ⟨6, some 43, .a false (.bin .geq (.t 38) (.t 42)) none, none, []⟩,
    ⟨7, some 36, .a false (.mv (.t 43)) none, none, []⟩])
  (.cond (.t 36) (.seq [11, 10] (.region [⟨0, some 44, .a false (.mv (.t 2)) none, none, []⟩,
    ⟨1, some 45, .a false (.fieldA 0 (.t 5)) none, none, []⟩,
    ⟨2, some 46, .a false (.loadB 0 none (.t 45)) none, none, [1]⟩,
    ⟨3, some 47, .a false (.bin .add (.t 44) (.t 46)) none, none, [0, 1, 2]⟩,
    ⟨4, some 10, .a false (.mv (.c (.int .i64 2))) none, none, []⟩,
    ⟨5, some 11, .a false (.mv (.t 47)) none, none, [0, 1, 2, 3, 4]⟩])
  .ret) (.seq [48, 28, 27, 26, 14, 12, 5, 4, 2, 1] (.region [⟨0, some 49, .a false (.fieldA 1 (.t 14)) none, none, []⟩,
    ⟨1, some 50, .a false (.loadB 1 none (.t 49)) none, none, []⟩,
    ⟨2, some 51, .a false (.mv (.t 1)) none, none, []⟩,
    ⟨3, some 52, .a false (.bin .eql (.t 50) (.t 51)) none, none, []⟩,
    ⟨4, some 53, .a false (.mv (.t 52)) none, none, []⟩,
    ⟨5, some 54, .a false (.fieldA 2 (.t 14)) none, (some (53, true)), []⟩,
    ⟨6, some 55, .a false (.loadB 1 none (.t 54)) none, (some (53, true)), []⟩,
    ⟨7, some 56, .a false (.un .not (.t 55)) none, (some (53, true)), []⟩,
    ⟨8, some 57, .a false (.pick (.t 53) (.t 56) (.c (.bool false))) none, none, []⟩,
    ⟨9, some 48, .a false (.mv (.t 57)) none, none, []⟩])
  (.cond (.t 48) (.seq [11, 10] (.region [⟨0, some 58, .a false (.fieldA 0 (.t 14)) none, none, []⟩,
    ⟨1, some 59, .a true (.loadB 1 none (.t 58)) none, none, [0]⟩,
    ⟨2, some 10, .a false (.mv (.c (.int .i64 1))) none, none, []⟩,
    ⟨3, some 11, .a false (.mv (.t 59)) none, none, [0, 1, 2]⟩])
  .ret) (.seq [60, 28, 27, 26, 14, 12, 5, 4, 2, 1] (.region [⟨0, some 61, .a false (.fieldA 1 (.t 14)) none, none, []⟩,
    ⟨1, some 62, .a false (.loadB 1 none (.t 61)) none, none, []⟩,
    ⟨2, some 63, .a false (.mv (.t 1)) none, none, []⟩,
    ⟨3, some 64, .a false (.bin .eql (.t 62) (.t 63)) none, none, []⟩,
    ⟨4, some 60, .a false (.mv (.t 64)) none, none, []⟩])
  (.cond (.t 60) .skip (.seq [65, 28, 27, 26, 14, 12, 5, 4, 2, 1] (.region [⟨0, some 66, .a false (.fieldA 2 (.t 14)) none, none, []⟩,
    ⟨1, some 67, .a false (.loadB 1 none (.t 66)) none, none, []⟩,
    ⟨2, some 65, .a false (.mv (.t 67)) none, none, []⟩])
  (.cond (.t 65) (.seq [28, 27, 26, 14, 12, 5, 4, 2, 1] (.seq [70, 28, 27, 26, 14, 12, 5, 4, 2, 1] (.region [⟨0, some 68, .a false (.fieldA 2 (.t 5)) none, none, []⟩,
    ⟨1, some 69, .a false (.loadB 0 none (.t 68)) none, none, []⟩,
    ⟨2, some 70, .a false (.bin .eql (.t 69) (.c (.int .i64 1))) none, none, []⟩])
  (.cond (.t 70) (.seq [11, 10] (.region [⟨0, some 71, .a false (.fieldA 0 (.t 14)) none, none, []⟩,
    ⟨1, some 72, .a true (.loadB 1 none (.t 71)) none, none, [0]⟩,
    ⟨2, some 10, .a false (.mv (.c (.int .i64 2))) none, none, []⟩,
    ⟨3, some 11, .a false (.mv (.t 72)) none, none, [0, 1, 2]⟩])
  .ret) .skip))
  (.region [⟨0, some 73, .a false (.mv (.t 12)) none, none, []⟩,
    ⟨1, some 74, .a false (.fieldA 1 (.t 14)) none, none, []⟩,
    ⟨2, some 75, .a false (.loadB 1 none (.t 74)) none, none, []⟩,
    ⟨3, some 76, .a false (.bin .shl (.c (.int .i64 1)) (.t 75)) none, none, []⟩,
    ⟨4, some 77, .a false (.bin .or (.t 73) (.t 76)) none, none, []⟩,
    ⟨5, some 12, .a false (.mv (.t 77)) none, none, []⟩])) (.seq [78, 28, 27, 26, 14, 12, 5, 4, 2, 1] (.region [⟨0, some 79, .a false (.fieldA 2 (.t 5)) none, none, []⟩,
    ⟨1, some 80, .a false (.loadB 0 none (.t 79)) none, none, []⟩,
    ⟨2, some 81, .a false (.bin .eql (.t 80) (.c (.int .i64 2))) none, none, []⟩,
    ⟨3, some 82, .a false (.mv (.t 81)) none, none, []⟩,
    ⟨4, some 83, .a false (.mv (.t 12)) none, (some (82, true)), []⟩,
    ⟨5, some 84, .a false (.fieldA 1 (.t 14)) none, (some (82, true)), []⟩,
    ⟨6, some 85, .a false (.loadB 1 none (.t 84)) none, (some (82, true)), []⟩,
    ⟨7, some 86, .call false s_impl_bit p_impl_bit D_impl_bit [(.t 83), (.t 85)], (some (82, true)), []⟩,
    ⟨8, some 87, .a false (.bin .eql (.t 86) (.c (.int .i64 1))) none, (some (82, true)), []⟩,
    ⟨9, some 88, .a false (.pick (.t 82) (.t 87) (.c (.bool false))) none, none, []⟩,
    ⟨10, some 78, .a false (.mv (.t 88)) none, none, []⟩])
  (.cond (.t 78) (.seq [11, 10] (.region [⟨0, some 89, .a false (.fieldA 0 (.t 14)) none, none, []⟩,
    ⟨1, some 90, .a true (.loadB 1 none (.t 89)) none, none, [0]⟩,
    ⟨2, some 10, .a false (.mv (.c (.int .i64 2))) none, none, []⟩,
    ⟨3, some 11, .a false (.mv (.t 90)) none, none, [0, 1, 2]⟩])
  .ret) .skip)))))))))))))))
  (.region [⟨0, some 91, .a false (.bin .add (.t 28) (.c (.int .i64 1))) none, none, []⟩,
    ⟨1, some 28, .a false (.mv (.t 91)) none, none, []⟩])))))))
  (.seq [] (.seq [97, 5, 2] (.region [⟨0, some 92, .a false (.mv (.t 4)) none, none, []⟩,
    ⟨1, some 93, .a false (.mv (.t 2)) none, none, []⟩,
    ⟨2, some 94, .a false (.fieldA 0 (.t 5)) none, none, []⟩,
    ⟨3, some 95, .a false (.loadB 0 none (.t 94)) none, none, []⟩,
    ⟨4, some 96, .a false (.bin .add (.t 93) (.t 95)) none, none, []⟩,
    ⟨5, some 97, .a false (.bin .geq (.t 92) (.t 96)) none, none, []⟩])
  (.cond (.t 97) (.seq [11, 10] (.region [⟨0, some 98, .a false (.mv (.t 2)) none, none, []⟩,
    ⟨1, some 99, .a false (.fieldA 0 (.t 5)) none, none, []⟩,
    ⟨2, some 100, .a false (.loadB 0 none (.t 99)) none, none, [1]⟩,
    ⟨3, some 101, .a false (.bin .add (.t 98) (.t 100)) none, none, [0, 1, 2]⟩,
    ⟨4, some 10, .a false (.mv (.c (.int .i64 2))) none, none, []⟩,
    ⟨5, some 11, .a false (.mv (.t 101)) none, none, [0, 1, 2, 3, 4]⟩])
  .ret) .skip))
  (.seq [11, 10] (.region [⟨0, some 10, .a false (.mv (.c (.int .i64 0))) none, none, []⟩,
    ⟨1, some 11, .a false (.mv (.c (.int .i64 0))) none, none, []⟩])
  .ret))))))
noncomputable def df_impl_ChoiceOf : DFun := ⟨5, 102, 2, true, [.tmp 10, .tmp 11], dc_impl_ChoiceOf⟩
noncomputable def pf_impl_ChoiceOf : PFun := df_impl_ChoiceOf.er
noncomputable def f_impl_ChoiceOf : AFun := pf_impl_ChoiceOf.er
@[irreducible] noncomputable def s_impl_ChoiceOf : CallSem := funSem f_impl_ChoiceOf
@[irreducible] noncomputable def p_impl_ChoiceOf : PSem := pfunSem pf_impl_ChoiceOf
theorem sp_impl_ChoiceOf : SoundP s_impl_ChoiceOf p_impl_ChoiceOf := by unfold s_impl_ChoiceOf p_impl_ChoiceOf; exact pfun_sound (f := pf_impl_ChoiceOf) ⟨sp_impl_IsTiming, sp_impl_IsEvent, sp_impl_bit, trivial⟩
def h_impl_ChoiceOf : List HT := [.agg [(.frz, .int .i64), (.frz, .int .i64), (.frz, .int .i64)], .one .frz (.int .i64), .one .frz (.int .i64), .one .frz (.sl (.cons (.int .i64) (.cons (.int .i64) (.one (.bool))))), .one .frz (.int .i64)]
def q_impl_ChoiceOf : QT := .tup [.one .own (.int .i64), .one .own (.int .i64)]
@[irreducible] noncomputable def v_impl_ChoiceOf (x : (Int × Int × Int) × Int × Int × (List (Int × Int × Bool)) × Int) : Int × Int := fnV df_impl_ChoiceOf h_impl_ChoiceOf q_impl_ChoiceOf x
@[irreducible] noncomputable def ok_impl_ChoiceOf (x : (Int × Int × Int) × Int × Int × (List (Int × Int × Bool)) × Int) : Prop := fnOk df_impl_ChoiceOf h_impl_ChoiceOf q_impl_ChoiceOf x
noncomputable def D_impl_ChoiceOf : DSem := DSemOf h_impl_ChoiceOf q_impl_ChoiceOf ok_impl_ChoiceOf v_impl_ChoiceOf
theorem ck_impl_ChoiceOf (x : (Int × Int × Int) × Int × Int × (List (Int × Int × Bool)) × Int) : fnChk df_impl_ChoiceOf h_impl_ChoiceOf q_impl_ChoiceOf x = true := by kernel_rfl
theorem ob_impl_ChoiceOf : AllD df_impl_ChoiceOf.body.obs := ⟨sd_impl_IsTiming, sd_impl_IsEvent, sd_impl_bit, trivial⟩
theorem st_impl_ChoiceOf : fnSt df_impl_ChoiceOf h_impl_ChoiceOf q_impl_ChoiceOf = true := by kernel_rfl
theorem sd_impl_ChoiceOf : SoundD p_impl_ChoiceOf D_impl_ChoiceOf := by unfold p_impl_ChoiceOf; exact soundD_of (f := df_impl_ChoiceOf) (hs := h_impl_ChoiceOf) (q := q_impl_ChoiceOf) ob_impl_ChoiceOf st_impl_ChoiceOf ck_impl_ChoiceOf (fun x h => by unfold ok_impl_ChoiceOf at h; exact h) (fun x => by unfold v_impl_ChoiceOf; rfl)

noncomputable def dc_laws_eqEvent : DCode :=
  (.seq [3, 2] (.region [⟨0, some 2, .a false (.boxB 0 3 (.t 0)) none, none, []⟩,
    ⟨1, some 3, .a false (.boxB 1 3 (.t 1)) none, none, []⟩,
    ⟨2, some 4, .a false (.mv (.c (.bool false))) none, none, []⟩])
  (.seq [3, 2] (.seq [9, 3, 2] (.region [⟨0, some 5, .a false (.fieldA 0 (.t 2)) none, none, []⟩,
    ⟨1, some 6, .a false (.loadB 0 none (.t 5)) none, none, []⟩,
    ⟨2, some 7, .a false (.fieldA 0 (.t 3)) none, none, []⟩,
    ⟨3, some 8, .a false (.loadB 1 none (.t 7)) none, none, []⟩,
    ⟨4, some 9, .a false (.bin .neq (.t 6) (.t 8)) none, none, []⟩])
  (.cond (.t 9) (.seq [4] (.region [⟨0, some 4, .a false (.mv (.c (.bool false))) none, none, []⟩])
  .ret) .skip))
  (.seq [3, 2] (.seq [14, 3, 2] (.region [⟨0, some 10, .a false (.fieldA 1 (.t 2)) none, none, []⟩,
    ⟨1, some 11, .a false (.loadB 0 none (.t 10)) none, none, []⟩,
    ⟨2, some 12, .a false (.fieldA 1 (.t 3)) none, none, []⟩,
    ⟨3, some 13, .a false (.loadB 1 none (.t 12)) none, none, []⟩,
    ⟨4, some 14, .a false (.bin .neq (.t 11) (.t 13)) none, none, []⟩])
  (.cond (.t 14) (.seq [4] (.region [⟨0, some 4, .a false (.mv (.c (.bool false))) none, none, []⟩])
  .ret) .skip))
  (.seq [] (.seq [19] (.region [⟨0, some 15, .a false (.fieldA 2 (.t 2)) none, none, []⟩,
    ⟨1, some 16, .a false (.loadB 0 none (.t 15)) none, none, []⟩,
    ⟨2, some 17, .a false (.fieldA 2 (.t 3)) none, none, []⟩,
    ⟨3, some 18, .a false (.loadB 1 none (.t 17)) none, none, []⟩,
    ⟨4, some 19, .a false (.eqB true (.t 16) (.t 18)) none, none, []⟩])
  (.cond (.t 19) (.seq [4] (.region [⟨0, some 4, .a false (.mv (.c (.bool false))) none, none, []⟩])
  .ret) .skip))
  (.seq [4] (.region [⟨0, some 4, .a false (.mv (.c (.bool true))) none, none, []⟩])
  .ret)))))
noncomputable def df_laws_eqEvent : DFun := ⟨2, 20, 2, true, [.tmp 4], dc_laws_eqEvent⟩
noncomputable def pf_laws_eqEvent : PFun := df_laws_eqEvent.er
noncomputable def f_laws_eqEvent : AFun := pf_laws_eqEvent.er
@[irreducible] noncomputable def s_laws_eqEvent : CallSem := funSem f_laws_eqEvent
@[irreducible] noncomputable def p_laws_eqEvent : PSem := pfunSem pf_laws_eqEvent
theorem sp_laws_eqEvent : SoundP s_laws_eqEvent p_laws_eqEvent := by unfold s_laws_eqEvent p_laws_eqEvent; exact pfun_sound (f := pf_laws_eqEvent) trivial
def h_laws_eqEvent : List HT := [.agg [(.frz, .int .i64), (.frz, .int .i64), (.frz, .bool)], .agg [(.frz, .int .i64), (.frz, .int .i64), (.frz, .bool)]]
def q_laws_eqEvent : QT := .one (.one .own (.bool))
@[irreducible] noncomputable def v_laws_eqEvent (x : (Int × Int × Bool) × (Int × Int × Bool)) : Bool := fnV df_laws_eqEvent h_laws_eqEvent q_laws_eqEvent x
@[irreducible] noncomputable def ok_laws_eqEvent (x : (Int × Int × Bool) × (Int × Int × Bool)) : Prop := fnOk df_laws_eqEvent h_laws_eqEvent q_laws_eqEvent x
noncomputable def D_laws_eqEvent : DSem := DSemOf h_laws_eqEvent q_laws_eqEvent ok_laws_eqEvent v_laws_eqEvent
theorem ck_laws_eqEvent (x : (Int × Int × Bool) × (Int × Int × Bool)) : fnChk df_laws_eqEvent h_laws_eqEvent q_laws_eqEvent x = true := by kernel_rfl
theorem ob_laws_eqEvent : AllD df_laws_eqEvent.body.obs := trivial
theorem st_laws_eqEvent : fnSt df_laws_eqEvent h_laws_eqEvent q_laws_eqEvent = true := by kernel_rfl
theorem sd_laws_eqEvent : SoundD p_laws_eqEvent D_laws_eqEvent := by unfold p_laws_eqEvent; exact soundD_of (f := df_laws_eqEvent) (hs := h_laws_eqEvent) (q := q_laws_eqEvent) ob_laws_eqEvent st_laws_eqEvent ck_laws_eqEvent (fun x h => by unfold ok_laws_eqEvent at h; exact h) (fun x => by unfold v_laws_eqEvent; rfl)

noncomputable def dc_laws_eqEventS : DCode :=
  (.seq [1, 0] (.region [⟨0, some 4, .a false (.mv (.c (.bool false))) none, none, []⟩])
  (.seq [1, 0] (.seq [10, 1, 0] (.region [⟨0, some 6, .a true (.mv (.t 0)) none, none, []⟩,
    ⟨1, some 7, .a false (.len (.t 6)) none, none, []⟩,
    ⟨2, some 8, .a true (.mv (.t 1)) none, none, []⟩,
    ⟨3, some 9, .a false (.len (.t 8)) none, none, []⟩,
    ⟨4, some 10, .a false (.bin .neq (.t 7) (.t 9)) none, none, []⟩])
  (.cond (.t 10) (.seq [4] (.region [⟨0, some 4, .a false (.mv (.c (.bool false))) none, none, []⟩])
  .ret) .skip))
  (.seq [] (.seq [5, 1, 0] (.region [⟨0, some 5, .a false (.mv (.c (.int .i64 0))) none, none, []⟩])
  (.block 0 (.loop [0, 1, 5] 1 (.seq [5, 1, 0] (.seq [14, 5, 1, 0] (.region [⟨0, some 11, .a false (.mv (.t 5)) none, none, []⟩,
    ⟨1, some 12, .a true (.mv (.t 0)) none, none, []⟩,
    ⟨2, some 13, .a false (.len (.t 12)) none, none, []⟩,
    ⟨3, some 14, .a false (.bin .lss (.t 11) (.t 13)) none, none, []⟩])
  (.cond (.t 14) .skip (.exit 0)))
  (.seq [5, 1, 0] (.block 1 (.seq [26, 5, 1, 0] (.region [⟨0, some 17, .a true (.mv (.t 0)) none, none, []⟩,
    ⟨1, some 18, .a false (.mv (.t 5)) none, none, []⟩,
    ⟨2, some 19, .a false (.indexA 3 (.t 17) (.t 18)) none, none, [0, 1]⟩,
    ⟨3, some 20, .a false (.loadH (some 3) (.t 19)) none, none, [0, 1, 2]⟩,
    ⟨4, some 21, .a true (.mv (.t 1)) none, none, []⟩,
    ⟨5, some 22, .a false (.mv (.t 5)) none, none, []⟩,
    ⟨6, some 23, .a false (.indexA 3 (.t 21) (.t 22)) none, none, [4, 5]⟩,
    ⟨7, some 24, .a false (.loadH (some 3) (.t 23)) none, none, [4, 5, 6]⟩,
    ⟨8, some 25, .call false s_laws_eqEvent p_laws_eqEvent D_laws_eqEvent [(.t 20), (.t 24)], none, [0, 1, 2, 3, 4, 5, 6, 7]⟩,
    ⟨9, some 26, .a false (.un .not (.t 25)) none, none, [0, 1, 2, 3, 4, 5, 6, 7, 8]⟩])
  (.cond (.t 26) (.seq [4] (.region [⟨0, some 4, .a false (.mv (.c (.bool false))) none, none, []⟩])
  .ret) .skip)))
  (.region [⟨0, some 15, .a false (.mv (.t 5)) none, none, []⟩,
    ⟨1, some 16, .a false (.bin .add (.t 15) (.c (.int .i64 1))) none, none, []⟩,
    ⟨2, some 5, .a false (.mv (.t 16)) none, none, []⟩]))))))
  (.seq [4] (.region [⟨0, some 4, .a false (.mv (.c (.bool true))) none, none, []⟩])
  .ret))))
noncomputable def df_laws_eqEventS : DFun := ⟨2, 27, 0, true, [.tmp 4], dc_laws_eqEventS⟩
noncomputable def pf_laws_eqEventS : PFun := df_laws_eqEventS.er
noncomputable def f_laws_eqEventS : AFun := pf_laws_eqEventS.er
@[irreducible] noncomputable def s_laws_eqEventS : CallSem := funSem f_laws_eqEventS
@[irreducible] noncomputable def p_laws_eqEventS : PSem := pfunSem pf_laws_eqEventS
theorem sp_laws_eqEventS : SoundP s_laws_eqEventS p_laws_eqEventS := by unfold s_laws_eqEventS p_laws_eqEventS; exact pfun_sound (f := pf_laws_eqEventS) ⟨sp_laws_eqEvent, trivial⟩
def h_laws_eqEventS : List HT := [.one .frz (.sl (.cons (.int .i64) (.cons (.int .i64) (.one (.bool))))), .one .frz (.sl (.cons (.int .i64) (.cons (.int .i64) (.one (.bool)))))]
def q_laws_eqEventS : QT := .one (.one .own (.bool))
@[irreducible] noncomputable def v_laws_eqEventS (x : (List (Int × Int × Bool)) × (List (Int × Int × Bool))) : Bool := fnV df_laws_eqEventS h_laws_eqEventS q_laws_eqEventS x
@[irreducible] noncomputable def ok_laws_eqEventS (x : (List (Int × Int × Bool)) × (List (Int × Int × Bool))) : Prop := fnOk df_laws_eqEventS h_laws_eqEventS q_laws_eqEventS x
noncomputable def D_laws_eqEventS : DSem := DSemOf h_laws_eqEventS q_laws_eqEventS ok_laws_eqEventS v_laws_eqEventS
theorem ck_laws_eqEventS (x : (List (Int × Int × Bool)) × (List (Int × Int × Bool))) : fnChk df_laws_eqEventS h_laws_eqEventS q_laws_eqEventS x = true := by kernel_rfl
theorem ob_laws_eqEventS : AllD df_laws_eqEventS.body.obs := ⟨sd_laws_eqEvent, trivial⟩
theorem st_laws_eqEventS : fnSt df_laws_eqEventS h_laws_eqEventS q_laws_eqEventS = true := by kernel_rfl
theorem sd_laws_eqEventS : SoundD p_laws_eqEventS D_laws_eqEventS := by unfold p_laws_eqEventS; exact soundD_of (f := df_laws_eqEventS) (hs := h_laws_eqEventS) (q := q_laws_eqEventS) ob_laws_eqEventS st_laws_eqEventS ck_laws_eqEventS (fun x h => by unfold ok_laws_eqEventS at h; exact h) (fun x => by unfold v_laws_eqEventS; rfl)

noncomputable def dc_laws_FnExactChoiceOf : DCode :=
  (.seq [5, 4, 3, 2, 1] (.region [⟨0, some 5, .a false (.boxB 0 3 (.t 0)) none, none, []⟩,
    ⟨1, some 10, .a false (.mv (.c (.bool false))) none, none, []⟩])
  (.seq [11, 5, 4, 3, 2, 1] (.region [⟨0, some 11, .a false (.mv (.c (.int .i64 1048576))) none, none, []⟩])
  (.seq [11, 5, 4, 3, 2, 1] (.region [⟨0, some 17, .a true (.mv (.t 3)) none, none, []⟩,
    ⟨1, some 18, .a false (.mv (.t 11)) none, none, []⟩,
    ⟨2, some 19, .call false s_laws_szEventS p_laws_szEventS D_laws_szEventS [(.t 17), (.t 18)], none, []⟩,
    ⟨3, some 11, .a false (.mv (.t 19)) none, none, []⟩])
  (.seq [5, 4, 3, 2, 1] (.seq [21, 5, 4, 3, 2, 1] (.region [⟨0, some 20, .a false (.mv (.t 11)) none, none, []⟩,
    ⟨1, some 21, .a false (.bin .lss (.t 20) (.c (.int .i64 0))) none, none, []⟩])
  (.cond (.t 21) (.seq [10] (.region [⟨0, some 10, .a false (.mv (.c (.bool true))) none, none, []⟩])
  .ret) .skip))
  (.seq [13, 12, 5, 4, 3, 2, 1] (.region [⟨0, some 23, .a false (.loadB 0 (some 3) (.t 5)) none, none, []⟩,
    ⟨1, some 24, .call false s_laws_toTiming p_laws_toTiming D_laws_toTiming [(.t 23)], none, []⟩,
    ⟨2, some 25, .a false (.mv (.t 1)) none, none, []⟩,
    ⟨3, some 26, .a false (.mv (.t 2)) none, none, []⟩,
    ⟨4, some 27, .a true (.mv (.t 3)) none, none, []⟩,
    ⟨5, some 28, .call false s_laws_toEventS p_laws_toEventS D_laws_toEventS [(.t 27)], none, []⟩,
    ⟨6, some 29, .a false (.mv (.t 4)) none, none, []⟩,
    ⟨7, some 30, .call false s_spec_ChoiceOf p_spec_ChoiceOf D_spec_ChoiceOf [(.t 24), (.t 25), (.t 26), (.t 28), (.t 29)], none, []⟩,
    ⟨8, some 22, .a false (.mv (.t 30)) none, none, []⟩,
    ⟨9, some 31, .a false (.extract (.t 22) 0) none, none, []⟩,
    ⟨10, some 32, .a false (.extract (.t 22) 1) none, none, []⟩,
    ⟨11, some 12, .a false (.mv (.t 31)) none, none, []⟩,
    ⟨12, some 13, .a false (.mv (.t 32)) none, none, []⟩])
  (.seq [14, 13, 12, 5, 4, 3, 2, 1] (.region [⟨0, some 33, .a true (.mv (.t 3)) none, none, []⟩,
    ⟨1, some 34, .call false s_laws_toEventS p_laws_toEventS D_laws_toEventS [(.t 33)], none, []⟩,
    ⟨2, some 14, .a true (.mv (.t 34)) none, none, []⟩])
  (.seq [16, 15, 14, 13, 12, 3] (.region [⟨0, some 36, .a false (.loadB 0 (some 3) (.t 5)) none, none, []⟩,
    ⟨1, some 37, .call false s_laws_toTiming p_laws_toTiming D_laws_toTiming [(.t 36)], none, []⟩,
    ⟨2, some 38, .a false (.mv (.t 1)) none, none, []⟩,
    ⟨3, some 39, .a false (.mv (.t 2)) none, none, []⟩,
    ⟨4, some 40, .a true (.mv (.t 14)) none, none, []⟩,
    ⟨5, some 41, .a false (.mv (.t 4)) none, none, []⟩,
    ⟨6, some 42, .call false s_impl_ChoiceOf p_impl_ChoiceOf D_impl_ChoiceOf [(.t 37), (.t 38), (.t 39), (.t 40), (.t 41)], none, []⟩,
    ⟨7, some 35, .a false (.mv (.t 42)) none, none, []⟩,
    ⟨8, some 43, .a false (.extract (.t 35) 0) none, none, []⟩,
    ⟨9, some 44, .a false (.extract (.t 35) 1) none, none, []⟩,
    ⟨10, some 15, .a false (.mv (.t 43)) none, none, []⟩,
    ⟨11, some 16, .a false (.mv (.t 44)) none, none, []⟩])
  (.seq [14, 3] (.seq [52, 14, 3] (.region [⟨0, some 45, .a false (.mv (.t 15)) none, none, []⟩,
    ⟨1, some 46, .a false (.mv (.t 12)) none, none, []⟩,
    ⟨2, some 47, .a false (.bin .neq (.t 45) (.t 46)) none, none, []⟩,
    ⟨3, some 48, .a false (.mv (.t 47)) none, none, []⟩,
    ⟨4, some 49, .a false (.mv (.t 16)) none, (some (48, false)), []⟩,
    ⟨5, some 50, .a false (.mv (.t 13)) none, (some (48, false)), []⟩,
    ⟨6, some 51, .a false (.bin .neq (.t 49) (.t 50)) none, (some (48, false)), []⟩,
    ⟨7, some 52, .a false (.pick (.t 48) (.c (.bool true)) (.t 51)) none, none, []⟩])
  (.cond (.t 52) (.seq [10] (.region [⟨0, some 10, .a false (.mv (.c (.bool false))) none, none, []⟩])
  .ret) .skip))
  (.seq [] (.seq [57] (.region [⟨0, some 53, .a true (.mv (.t 14)) none, none, []⟩,
    ⟨1, some 54, .a true (.mv (.t 3)) none, none, []⟩,
    ⟨2, some 55, .call false s_laws_toEventS p_laws_toEventS D_laws_toEventS [(.t 54)], none, []⟩,
    ⟨3, some 56, .call false s_laws_eqEventS p_laws_eqEventS D_laws_eqEventS [(.t 53), (.t 55)], none, []⟩,
    ⟨4, some 57, .a false (.un .not (.t 56)) none, none, []⟩])
  (.cond (.t 57) (.seq [10] (.region [⟨0, some 10, .a false (.mv (.c (.bool false))) none, none, []⟩])
  .ret) .skip))
  (.seq [10] (.region [⟨0, some 10, .a false (.mv (.c (.bool true))) none, none, []⟩])
  .ret))))))))))
noncomputable def df_laws_FnExactChoiceOf : DFun := ⟨5, 58, 1, true, [.tmp 10], dc_laws_FnExactChoiceOf⟩
noncomputable def pf_laws_FnExactChoiceOf : PFun := df_laws_FnExactChoiceOf.er
noncomputable def f_laws_FnExactChoiceOf : AFun := pf_laws_FnExactChoiceOf.er
@[irreducible] noncomputable def s_laws_FnExactChoiceOf : CallSem := funSem f_laws_FnExactChoiceOf
@[irreducible] noncomputable def p_laws_FnExactChoiceOf : PSem := pfunSem pf_laws_FnExactChoiceOf
theorem sp_laws_FnExactChoiceOf : SoundP s_laws_FnExactChoiceOf p_laws_FnExactChoiceOf := by unfold s_laws_FnExactChoiceOf p_laws_FnExactChoiceOf; exact pfun_sound (f := pf_laws_FnExactChoiceOf) ⟨sp_laws_szEventS, sp_laws_toTiming, sp_laws_toEventS, sp_spec_ChoiceOf, sp_laws_toEventS, sp_laws_toTiming, sp_impl_ChoiceOf, sp_laws_toEventS, sp_laws_eqEventS, trivial⟩
def h_laws_FnExactChoiceOf : List HT := [.agg [(.frz, .int .i64), (.frz, .int .i64), (.frz, .int .i64)], .one .frz (.int .i64), .one .frz (.int .i64), .one .frz (.sl (.cons (.int .i64) (.cons (.int .i64) (.one (.bool))))), .one .frz (.int .i64)]
def q_laws_FnExactChoiceOf : QT := .one (.one .own (.bool))
@[irreducible] noncomputable def v_laws_FnExactChoiceOf (x : (Int × Int × Int) × Int × Int × (List (Int × Int × Bool)) × Int) : Bool := fnV df_laws_FnExactChoiceOf h_laws_FnExactChoiceOf q_laws_FnExactChoiceOf x
@[irreducible] noncomputable def ok_laws_FnExactChoiceOf (x : (Int × Int × Int) × Int × Int × (List (Int × Int × Bool)) × Int) : Prop := fnOk df_laws_FnExactChoiceOf h_laws_FnExactChoiceOf q_laws_FnExactChoiceOf x
noncomputable def D_laws_FnExactChoiceOf : DSem := DSemOf h_laws_FnExactChoiceOf q_laws_FnExactChoiceOf ok_laws_FnExactChoiceOf v_laws_FnExactChoiceOf
theorem ck_laws_FnExactChoiceOf (x : (Int × Int × Int) × Int × Int × (List (Int × Int × Bool)) × Int) : fnChk df_laws_FnExactChoiceOf h_laws_FnExactChoiceOf q_laws_FnExactChoiceOf x = true := by kernel_rfl
theorem ob_laws_FnExactChoiceOf : AllD df_laws_FnExactChoiceOf.body.obs := ⟨sd_laws_szEventS, sd_laws_toTiming, sd_laws_toEventS, sd_spec_ChoiceOf, sd_laws_toEventS, sd_laws_toTiming, sd_impl_ChoiceOf, sd_laws_toEventS, sd_laws_eqEventS, trivial⟩
theorem st_laws_FnExactChoiceOf : fnSt df_laws_FnExactChoiceOf h_laws_FnExactChoiceOf q_laws_FnExactChoiceOf = true := by kernel_rfl
theorem sd_laws_FnExactChoiceOf : SoundD p_laws_FnExactChoiceOf D_laws_FnExactChoiceOf := by unfold p_laws_FnExactChoiceOf; exact soundD_of (f := df_laws_FnExactChoiceOf) (hs := h_laws_FnExactChoiceOf) (q := q_laws_FnExactChoiceOf) ob_laws_FnExactChoiceOf st_laws_FnExactChoiceOf ck_laws_FnExactChoiceOf (fun x h => by unfold ok_laws_FnExactChoiceOf at h; exact h) (fun x => by unfold v_laws_FnExactChoiceOf; rfl)

end Go.Ag
