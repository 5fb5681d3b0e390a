/-
  FUNCTIONS of the program in the form of the third level, written by program (ag.py) off the seat's own operations. Not trusted: each is checked against the seat's program where it is linked.
-/
import Derived.Test.YtmjjamfkgingcaaLibE
import Derived.KernelRfl
namespace Go.Ag
set_option linter.unusedSimpArgs false
set_option linter.unusedVariables false
set_option maxRecDepth 8000

noncomputable def dc_laws_toByteS : DCode :=
  (.seq [0] (.region [⟨0, some 2, .a false (.mv (.c .nils)) none, none, []⟩])
  (.seq [3, 0] (.region [⟨0, some 5, .a true (.mv (.t 0)) none, none, []⟩,
    ⟨1, some 6, .a false (.len (.t 5)) none, none, []⟩,
    ⟨2, some 7, .a false (.mkSlice 1 [(.int .u8 0)] (.t 6)) (some (.one (.int .u8))), none, []⟩,
    ⟨3, some 3, .a false (.mv (.t 7)) none, none, []⟩])
  (.seq [3] (.seq [4, 3, 0] (.region [⟨0, some 4, .a false (.mv (.c (.int .i64 0))) none, none, []⟩])
  (.block 0 (.loop [0, 3, 4] 1 (.seq [4, 3, 0] (.seq [11, 4, 3, 0] (.region [⟨0, some 8, .a false (.mv (.t 4)) none, none, []⟩,
    ⟨1, some 9, .a true (.mv (.t 0)) none, none, []⟩,
    ⟨2, some 10, .a false (.len (.t 9)) none, none, []⟩,
    ⟨3, some 11, .a false (.bin .lss (.t 8) (.t 10)) none, none, []⟩])
  (.cond (.t 11) .skip (.exit 0)))
  (.seq [4, 3, 0] (.block 1 (.region [⟨0, some 14, .a true (.mv (.t 3)) none, none, []⟩,
    ⟨1, some 15, .a false (.mv (.t 4)) none, none, []⟩,
    ⟨2, some 16, .a true (.mv (.t 0)) none, none, []⟩,
    ⟨3, some 17, .a false (.mv (.t 4)) none, none, []⟩,
    ⟨4, some 18, .a false (.indexA 1 (.t 16) (.t 17)) none, none, []⟩,
    ⟨5, some 19, .a true (.loadH none (.t 18)) none, none, []⟩,
    ⟨6, some 20, .a false (.indexA 1 (.t 14) (.t 15)) none, none, []⟩,
    ⟨7, none, .a false (.storeH 1 (.t 20) (.t 19)) none, none, []⟩]))
  (.region [⟨0, some 12, .a false (.mv (.t 4)) none, none, []⟩,
    ⟨1, some 13, .a false (.bin .add (.t 12) (.c (.int .i64 1))) none, none, []⟩,
    ⟨2, some 4, .a false (.mv (.t 13)) none, none, []⟩]))))))
  (.seq [2] (.region [⟨0, some 21, .a false (.mv (.t 3)) none, none, []⟩,
    ⟨1, some 2, .a false (.mv (.t 21)) none, none, []⟩])
  .ret))))
noncomputable def df_laws_toByteS : DFun := ⟨1, 22, 0, false, [.tmp 2], dc_laws_toByteS⟩
noncomputable def pf_laws_toByteS : PFun := df_laws_toByteS.er
noncomputable def f_laws_toByteS : AFun := pf_laws_toByteS.er
@[irreducible] noncomputable def s_laws_toByteS : CallSem := funSem f_laws_toByteS
@[irreducible] noncomputable def p_laws_toByteS : PSem := pfunSem pf_laws_toByteS
theorem sp_laws_toByteS : SoundP s_laws_toByteS p_laws_toByteS := by unfold s_laws_toByteS p_laws_toByteS; exact pfun_sound (f := pf_laws_toByteS) trivial
def h_laws_toByteS : List HT := [.one .frz (.sl (.one (.int .u8)))]
def q_laws_toByteS : QT := .one (.one .own (.sl (.one (.int .u8))))
@[irreducible] noncomputable def v_laws_toByteS (x : List (Int)) : List (Int) := fnV df_laws_toByteS h_laws_toByteS q_laws_toByteS x
@[irreducible] noncomputable def ok_laws_toByteS (x : List (Int)) : Prop := fnOk df_laws_toByteS h_laws_toByteS q_laws_toByteS x
noncomputable def D_laws_toByteS : DSem := DSemOf h_laws_toByteS q_laws_toByteS ok_laws_toByteS v_laws_toByteS
theorem ck_laws_toByteS (x : List (Int)) : fnChk df_laws_toByteS h_laws_toByteS q_laws_toByteS x = true := by kernel_rfl
theorem ob_laws_toByteS : AllD df_laws_toByteS.body.obs := trivial
theorem st_laws_toByteS : fnSt df_laws_toByteS h_laws_toByteS q_laws_toByteS = true := by kernel_rfl
theorem sd_laws_toByteS : SoundD p_laws_toByteS D_laws_toByteS := by unfold p_laws_toByteS; exact soundD_of (f := df_laws_toByteS) (hs := h_laws_toByteS) (q := q_laws_toByteS) ob_laws_toByteS st_laws_toByteS ck_laws_toByteS (fun x h => by unfold ok_laws_toByteS at h; exact h) (fun x => by unfold v_laws_toByteS; rfl)

noncomputable def dc_spec_l1In : DCode :=
  (.seq [2, 1, 0] (.region [⟨0, some 6, .a false (.mv (.c (.bool false))) none, none, []⟩])
  (.seq [6] (.region [⟨0, some 7, .a false (.mv (.t 0)) none, none, []⟩,
    ⟨1, some 8, .a false (.mv (.t 1)) none, none, []⟩,
    ⟨2, some 9, .a false (.bin .geq (.t 7) (.t 8)) none, none, []⟩,
    ⟨3, some 10, .a false (.mv (.t 9)) none, none, []⟩,
    ⟨4, some 11, .a false (.mv (.t 0)) none, (some (10, true)), []⟩,
    ⟨5, some 12, .a false (.mv (.t 2)) none, (some (10, true)), []⟩,
    ⟨6, some 13, .a false (.bin .leq (.t 11) (.t 12)) none, (some (10, true)), []⟩,
    ⟨7, some 14, .a false (.pick (.t 10) (.t 13) (.c (.bool false))) none, none, []⟩,
    ⟨8, some 6, .a false (.mv (.t 14)) none, none, []⟩])
  .ret))
noncomputable def df_spec_l1In : DFun := ⟨3, 15, 0, true, [.tmp 6], dc_spec_l1In⟩
noncomputable def pf_spec_l1In : PFun := df_spec_l1In.er
noncomputable def f_spec_l1In : AFun := pf_spec_l1In.er
@[irreducible] noncomputable def s_spec_l1In : CallSem := funSem f_spec_l1In
@[irreducible] noncomputable def p_spec_l1In : PSem := pfunSem pf_spec_l1In
theorem sp_spec_l1In : SoundP s_spec_l1In p_spec_l1In := by unfold s_spec_l1In p_spec_l1In; exact pfun_sound (f := pf_spec_l1In) trivial
def h_spec_l1In : List HT := [.one .frz (.int .i64), .one .frz (.int .i64), .one .frz (.int .i64)]
def q_spec_l1In : QT := .one (.one .own (.bool))
@[irreducible] noncomputable def v_spec_l1In (x : Int × Int × Int) : Bool := fnV df_spec_l1In h_spec_l1In q_spec_l1In x
@[irreducible] noncomputable def ok_spec_l1In (x : Int × Int × Int) : Prop := fnOk df_spec_l1In h_spec_l1In q_spec_l1In x
noncomputable def D_spec_l1In : DSem := DSemOf h_spec_l1In q_spec_l1In ok_spec_l1In v_spec_l1In
theorem ck_spec_l1In (x : Int × Int × Int) : fnChk df_spec_l1In h_spec_l1In q_spec_l1In x = true := by kernel_rfl
theorem ob_spec_l1In : AllD df_spec_l1In.body.obs := trivial
theorem st_spec_l1In : fnSt df_spec_l1In h_spec_l1In q_spec_l1In = true := by kernel_rfl
theorem sd_spec_l1In : SoundD p_spec_l1In D_spec_l1In := by unfold p_spec_l1In; exact soundD_of (f := df_spec_l1In) (hs := h_spec_l1In) (q := q_spec_l1In) ob_spec_l1In st_spec_l1In ck_spec_l1In (fun x h => by unfold ok_spec_l1In at h; exact h) (fun x => by unfold v_spec_l1In; rfl)

noncomputable def dc_spec_IsAction : DCode :=
  (.seq [1] (.region [⟨0, some 1, .a false (.boxB 0 4 (.t 0)) none, none, []⟩,
    ⟨1, some 2, .a false (.mv (.c (.bool false))) none, none, []⟩])
  (.seq [3, 1] (.region [⟨0, some 6, .a false (.fieldA 1 (.t 1)) none, none, []⟩,
    ⟨1, some 7, .a false (.loadB 0 none (.t 6)) none, none, []⟩,
    ⟨2, some 8, .call false s_spec_l1In p_spec_l1In D_spec_l1In [(.t 7), (.c (.int .i64 1)), (.c (.int .i64 56))], none, []⟩,
    ⟨3, some 3, .a false (.mv (.t 8)) none, none, []⟩])
  (.seq [4, 3, 1] (.region [⟨0, some 9, .a false (.fieldA 2 (.t 1)) none, none, []⟩,
    ⟨1, some 10, .a false (.loadB 0 none (.t 9)) none, none, []⟩,
    ⟨2, some 11, .call false s_spec_l1In p_spec_l1In D_spec_l1In [(.t 10), (.c (.int .i64 1)), (.c (.int .i64 15))], none, []⟩,
    ⟨3, some 4, .a false (.mv (.t 11)) none, none, []⟩])
  (.seq [5, 4, 3, 1] (.region [⟨0, some 12, .a false (.fieldA 3 (.t 1)) none, none, []⟩,
    ⟨1, some 13, .a false (.loadB 0 none (.t 12)) none, none, []⟩,
    ⟨2, some 14, .call false s_spec_l1In p_spec_l1In D_spec_l1In [(.t 13), (.c (.int .i64 1)), (.c (.int .i64 3))], none, []⟩,
    ⟨3, some 5, .a false (.mv (.t 14)) none, none, []⟩])
  (.seq [] (.seq [16, 5, 4, 3, 1] (.region [⟨0, some 15, .a false (.fieldA 0 (.t 1)) none, none, []⟩,
    ⟨1, some 16, .a false (.loadB 0 none (.t 15)) none, none, []⟩])
  (.block 0 (.seq [17, 16, 5, 4, 3, 1] (.seq [17, 16, 5, 4, 3, 1] (.region [⟨0, some 18, .a false (.bin .eql (.t 16) (.c (.int .i64 0))) none, none, []⟩,
    ⟨1, some 17, .a false (.mv (.t 18)) none, none, []⟩])
  (.cond (.t 17) .skip (.seq [17, 16, 5, 4, 3, 1] (.region [⟨0, some 19, .a false (.bin .eql (.t 16) (.c (.int .i64 1))) none, none, []⟩,
    ⟨1, some 17, .a false (.mv (.t 19)) none, none, []⟩])
  (.cond (.t 17) .skip (.region [⟨0, some 20, .a false (.bin .eql (.t 16) (.c (.int .i64 10))) none, none, []⟩,
    ⟨1, some 17, .a false (.mv (.t 20)) none, none, []⟩])))))
  (.cond (.t 17) (.seq [2] (.region [⟨0, some 21, .a false (.fieldA 1 (.t 1)) none, none, []⟩,
    ⟨1, some 22, .a false (.loadB 0 none (.t 21)) none, none, []⟩,
    ⟨2, some 23, .a false (.bin .eql (.t 22) (.c (.int .i64 0))) none, none, []⟩,
    ⟨3, some 24, .a false (.mv (.t 23)) none, none, []⟩,
    ⟨4, some 25, .a false (.fieldA 2 (.t 1)) none, (some (24, true)), []⟩,
    ⟨5, some 26, .a false (.loadB 0 none (.t 25)) none, (some (24, true)), []⟩,
    ⟨6, some 27, .a false (.bin .eql (.t 26) (.c (.int .i64 0))) none, (some (24, true)), []⟩,
    ⟨7, some 28, .a false (.pick (.t 24) (.t 27) (.c (.bool false))) none, none, []⟩,
    ⟨8, some 29, .a false (.mv (.t 28)) none, none, []⟩,
    ⟨9, some 30, .a false (.fieldA 3 (.t 1)) none, (some (29, true)), []⟩,
    ⟨10, some 31, .a false (.loadB 0 none (.t 30)) none, (some (29, true)), []⟩,
    ⟨11, some 32, .a false (.bin .eql (.t 31) (.c (.int .i64 0))) none, (some (29, true)), []⟩,
    ⟨12, some 33, .a false (.pick (.t 29) (.t 32) (.c (.bool false))) none, none, []⟩,
    ⟨13, some 2, .a false (.mv (.t 33)) none, none, []⟩])
  .ret) (.seq [34, 16, 5, 4, 3, 1] (.region [⟨0, some 35, .a false (.bin .eql (.t 16) (.c (.int .i64 2))) none, none, []⟩,
    ⟨1, some 34, .a false (.mv (.t 35)) none, none, []⟩])
  (.cond (.t 34) (.seq [2] (.region [⟨0, some 36, .a false (.fieldA 3 (.t 1)) none, none, []⟩,
    ⟨1, some 37, .a false (.loadB 0 none (.t 36)) none, none, []⟩,
    ⟨2, some 38, .a false (.bin .eql (.t 37) (.c (.int .i64 0))) none, none, []⟩,
    ⟨3, some 39, .a false (.mv (.t 38)) none, none, []⟩,
    ⟨4, some 40, .a false (.mv (.t 3)) none, (some (39, true)), []⟩,
    ⟨5, some 41, .a false (.mv (.t 40)) none, (some (39, true)), []⟩,
    ⟨6, some 42, .a false (.fieldA 1 (.t 1)) none, (some (41, false)), []⟩,
    ⟨7, some 43, .a false (.loadB 0 none (.t 42)) none, (some (41, false)), []⟩,
    ⟨8, some 44, .a false (.bin .eql (.t 43) (.c (.int .i64 0))) none, (some (41, false)), []⟩,
    ⟨9, some 45, .a false (.mv (.t 44)) none, (some (41, false)), []⟩,
    ⟨10, some 46, .a false (.mv (.t 4)) none, (some (45, true)), []⟩,
    ⟨11, some 47, .a false (.pick (.t 45) (.t 46) (.c (.bool false))) none, (some (41, false)), []⟩,
    ⟨12, some 48, .a false (.pick (.t 41) (.c (.bool true)) (.t 47)) none, (some (39, true)), []⟩,
    ⟨13, some 49, .a false (.pick (.t 39) (.t 48) (.c (.bool false))) none, none, []⟩,
    ⟨14, some 50, .a false (.mv (.t 49)) none, none, []⟩,
    ⟨15, some 51, .a false (.mv (.t 4)) none, (some (50, true)), []⟩,
    ⟨16, some 52, .a false (.mv (.t 51)) none, (some (50, true)), []⟩,
    ⟨17, some 53, .a false (.fieldA 2 (.t 1)) none, (some (52, false)), []⟩,
    ⟨18, some 54, .a false (.loadB 0 none (.t 53)) none, (some (52, false)), []⟩,
    ⟨19, some 55, .a false (.bin .eql (.t 54) (.c (.int .i64 0))) none, (some (52, false)), []⟩,
    ⟨20, some 56, .a false (.pick (.t 52) (.c (.bool true)) (.t 55)) none, (some (50, true)), []⟩,
    ⟨21, some 57, .a false (.pick (.t 50) (.t 56) (.c (.bool false))) none, none, []⟩,
    ⟨22, some 2, .a false (.mv (.t 57)) none, none, []⟩])
  .ret) (.seq [58, 16, 5, 4, 3, 1] (.seq [58, 16, 5, 4, 3, 1] (.region [⟨0, some 59, .a false (.bin .eql (.t 16) (.c (.int .i64 3))) none, none, []⟩,
    ⟨1, some 58, .a false (.mv (.t 59)) none, none, []⟩])
  (.cond (.t 58) .skip (.region [⟨0, some 60, .a false (.bin .eql (.t 16) (.c (.int .i64 4))) none, none, []⟩,
    ⟨1, some 58, .a false (.mv (.t 60)) none, none, []⟩])))
  (.cond (.t 58) (.seq [2] (.region [⟨0, some 61, .a false (.mv (.t 5)) none, none, []⟩,
    ⟨1, some 62, .a false (.mv (.t 61)) none, none, []⟩,
    ⟨2, some 63, .a false (.fieldA 1 (.t 1)) none, (some (62, true)), []⟩,
    ⟨3, some 64, .a false (.loadB 0 none (.t 63)) none, (some (62, true)), []⟩,
    ⟨4, some 65, .a false (.bin .eql (.t 64) (.c (.int .i64 0))) none, (some (62, true)), []⟩,
    ⟨5, some 66, .a false (.pick (.t 62) (.t 65) (.c (.bool false))) none, none, []⟩,
    ⟨6, some 67, .a false (.mv (.t 66)) none, none, []⟩,
    ⟨7, some 68, .a false (.fieldA 2 (.t 1)) none, (some (67, true)), []⟩,
    ⟨8, some 69, .a false (.loadB 0 none (.t 68)) none, (some (67, true)), []⟩,
    ⟨9, some 70, .a false (.bin .eql (.t 69) (.c (.int .i64 0))) none, (some (67, true)), []⟩,
    ⟨10, some 71, .a false (.pick (.t 67) (.t 70) (.c (.bool false))) none, none, []⟩,
    ⟨11, some 2, .a false (.mv (.t 71)) none, none, []⟩])
  .ret) (.seq [72, 16, 5, 4, 3, 1] (.seq [72, 16, 5, 4, 3, 1] (.region [⟨0, some 73, .a false (.bin .eql (.t 16) (.c (.int .i64 5))) none, none, []⟩,
    ⟨1, some 72, .a false (.mv (.t 73)) none, none, []⟩])
  (.cond (.t 72) .skip (.region [⟨0, some 74, .a false (.bin .eql (.t 16) (.c (.int .i64 9))) none, none, []⟩,
    ⟨1, some 72, .a false (.mv (.t 74)) none, none, []⟩])))
  (.cond (.t 72) (.seq [2] (.region [⟨0, some 75, .a false (.fieldA 3 (.t 1)) none, none, []⟩,
    ⟨1, some 76, .a false (.loadB 0 none (.t 75)) none, none, []⟩,
    ⟨2, some 77, .call false s_spec_l1In p_spec_l1In D_spec_l1In [(.t 76), (.c (.int .i64 0)), (.c (.int .i64 3))], none, []⟩,
    ⟨3, some 78, .a false (.mv (.t 77)) none, none, []⟩,
    ⟨4, some 79, .a false (.fieldA 1 (.t 1)) none, (some (78, true)), []⟩,
    ⟨5, some 80, .a false (.loadB 0 none (.t 79)) none, (some (78, true)), []⟩,
    ⟨6, some 81, .a false (.bin .eql (.t 80) (.c (.int .i64 0))) none, (some (78, true)), []⟩,
    ⟨7, some 82, .a false (.pick (.t 78) (.t 81) (.c (.bool false))) none, none, []⟩,
    ⟨8, some 83, .a false (.mv (.t 82)) none, none, []⟩,
    ⟨9, some 84, .a false (.fieldA 2 (.t 1)) none, (some (83, true)), []⟩,
    ⟨10, some 85, .a false (.loadB 0 none (.t 84)) none, (some (83, true)), []⟩,
    ⟨11, some 86, .a false (.bin .eql (.t 85) (.c (.int .i64 0))) none, (some (83, true)), []⟩,
    ⟨12, some 87, .a false (.pick (.t 83) (.t 86) (.c (.bool false))) none, none, []⟩,
    ⟨13, some 2, .a false (.mv (.t 87)) none, none, []⟩])
  .ret) (.seq [88, 16, 5, 4, 3, 1] (.region [⟨0, some 89, .a false (.bin .eql (.t 16) (.c (.int .i64 6))) none, none, []⟩,
    ⟨1, some 88, .a false (.mv (.t 89)) none, none, []⟩])
  (.cond (.t 88) (.seq [2] (.region [⟨0, some 90, .a false (.mv (.t 3)) none, none, []⟩,
    ⟨1, some 91, .a false (.mv (.t 90)) none, none, []⟩,
    ⟨2, some 92, .a false (.mv (.t 4)) none, (some (91, true)), []⟩,
    ⟨3, some 93, .a false (.pick (.t 91) (.t 92) (.c (.bool false))) none, none, []⟩,
    ⟨4, some 94, .a false (.mv (.t 93)) none, none, []⟩,
    ⟨5, some 95, .a false (.fieldA 3 (.t 1)) none, (some (94, true)), []⟩,
    ⟨6, some 96, .a false (.loadB 0 none (.t 95)) none, (some (94, true)), []⟩,
    ⟨7, some 97, .a false (.bin .eql (.t 96) (.c (.int .i64 0))) none, (some (94, true)), []⟩,
    ⟨8, some 98, .a false (.pick (.t 94) (.t 97) (.c (.bool false))) none, none, []⟩,
    ⟨9, some 2, .a false (.mv (.t 98)) none, none, []⟩])
  .ret) (.seq [99, 16, 5, 4, 3, 1] (.region [⟨0, some 100, .a false (.bin .eql (.t 16) (.c (.int .i64 7))) none, none, []⟩,
    ⟨1, some 99, .a false (.mv (.t 100)) none, none, []⟩])
  (.cond (.t 99) (.seq [2] (.region [⟨0, some 101, .a false (.mv (.t 3)) none, none, []⟩,
    ⟨1, some 102, .a false (.mv (.t 101)) none, none, []⟩,
    ⟨2, some 103, .a false (.mv (.t 5)) none, (some (102, true)), []⟩,
    ⟨3, some 104, .a false (.pick (.t 102) (.t 103) (.c (.bool false))) none, none, []⟩,
    ⟨4, some 105, .a false (.mv (.t 104)) none, none, []⟩,
    ⟨5, some 106, .a false (.fieldA 2 (.t 1)) none, (some (105, true)), []⟩,
    ⟨6, some 107, .a false (.loadB 0 none (.t 106)) none, (some (105, true)), []⟩,
    ⟨7, some 108, .a false (.bin .eql (.t 107) (.c (.int .i64 0))) none, (some (105, true)), []⟩,
    ⟨8, some 109, .a false (.pick (.t 105) (.t 108) (.c (.bool false))) none, none, []⟩,
    ⟨9, some 2, .a false (.mv (.t 109)) none, none, []⟩])
  .ret) (.seq [110, 4, 1] (.region [⟨0, some 111, .a false (.bin .eql (.t 16) (.c (.int .i64 8))) none, none, []⟩,
    ⟨1, some 110, .a false (.mv (.t 111)) none, none, []⟩])
  (.cond (.t 110) (.seq [2] (.region [⟨0, some 112, .a false (.mv (.t 4)) none, none, []⟩,
    ⟨1, some 113, .a false (.mv (.t 112)) none, none, []⟩,
    ⟨2, some 114, .a false (.fieldA 1 (.t 1)) none, (some (113, true)), []⟩,
    ⟨3, some 115, .a false (.loadB 0 none (.t 114)) none, (some (113, true)), []⟩,
    ⟨4, some 116, .a false (.bin .eql (.t 115) (.c (.int .i64 0))) none, (some (113, true)), []⟩,
    ⟨5, some 117, .a false (.pick (.t 113) (.t 116) (.c (.bool false))) none, none, []⟩,
    ⟨6, some 118, .a false (.mv (.t 117)) none, none, []⟩,
    ⟨7, some 119, .a false (.fieldA 3 (.t 1)) none, (some (118, true)), []⟩,
    ⟨8, some 120, .a false (.loadB 0 none (.t 119)) none, (some (118, true)), []⟩,
    ⟨9, some 121, .a false (.bin .eql (.t 120) (.c (.int .i64 0))) none, (some (118, true)), []⟩,
    ⟨10, some 122, .a false (.pick (.t 118) (.t 121) (.c (.bool false))) none, none, []⟩,
    ⟨11, some 2, .a false (.mv (.t 122)) none, none, []⟩])
  .ret) .skip))))))))))))))))
  (.seq [2] (.region [⟨0, some 2, .a false (.mv (.c (.bool false))) none, none, []⟩])
  .ret))))))
noncomputable def df_spec_IsAction : DFun := ⟨1, 123, 1, true, [.tmp 2], dc_spec_IsAction⟩
noncomputable def pf_spec_IsAction : PFun := df_spec_IsAction.er
noncomputable def f_spec_IsAction : AFun := pf_spec_IsAction.er
@[irreducible] noncomputable def s_spec_IsAction : CallSem := funSem f_spec_IsAction
@[irreducible] noncomputable def p_spec_IsAction : PSem := pfunSem pf_spec_IsAction
theorem sp_spec_IsAction : SoundP s_spec_IsAction p_spec_IsAction := by unfold s_spec_IsAction p_spec_IsAction; exact pfun_sound (f := pf_spec_IsAction) ⟨sp_spec_l1In, sp_spec_l1In, sp_spec_l1In, sp_spec_l1In, trivial⟩
def h_spec_IsAction : List HT := [.agg [(.frz, .int .i64), (.frz, .int .i64), (.frz, .int .i64), (.frz, .int .i64)]]
def q_spec_IsAction : QT := .one (.one .own (.bool))
@[irreducible] noncomputable def v_spec_IsAction (x : Int × Int × Int × Int) : Bool := fnV df_spec_IsAction h_spec_IsAction q_spec_IsAction x
@[irreducible] noncomputable def ok_spec_IsAction (x : Int × Int × Int × Int) : Prop := fnOk df_spec_IsAction h_spec_IsAction q_spec_IsAction x
noncomputable def D_spec_IsAction : DSem := DSemOf h_spec_IsAction q_spec_IsAction ok_spec_IsAction v_spec_IsAction
theorem ck_spec_IsAction (x : Int × Int × Int × Int) : fnChk df_spec_IsAction h_spec_IsAction q_spec_IsAction x = true := by kernel_rfl
theorem ob_spec_IsAction : AllD df_spec_IsAction.body.obs := ⟨sd_spec_l1In, sd_spec_l1In, sd_spec_l1In, sd_spec_l1In, trivial⟩
theorem st_spec_IsAction : fnSt df_spec_IsAction h_spec_IsAction q_spec_IsAction = true := by kernel_rfl
theorem sd_spec_IsAction : SoundD p_spec_IsAction D_spec_IsAction := by unfold p_spec_IsAction; exact soundD_of (f := df_spec_IsAction) (hs := h_spec_IsAction) (q := q_spec_IsAction) ob_spec_IsAction st_spec_IsAction ck_spec_IsAction (fun x h => by unfold ok_spec_IsAction at h; exact h) (fun x => by unfold v_spec_IsAction; rfl)

noncomputable def dc_spec_UnpackAction : DCode :=
  (.seq [2, 0] (.region [⟨0, some 2, .a false (.allocB 0 [(.int .i64 0), (.int .i64 0), (.int .i64 0), (.int .i64 0)]) none, none, []⟩,
    ⟨1, some 3, .a false (.mv (.c (.bool false))) none, none, []⟩])
  (.seq [2, 0] (.seq [7, 2, 0] (.region [⟨0, some 5, .a true (.mv (.t 0)) none, none, []⟩,
    ⟨1, some 6, .a false (.len (.t 5)) none, none, []⟩,
    ⟨2, some 7, .a false (.bin .neq (.t 6) (.c (.int .i64 3))) none, none, []⟩])
  (.cond (.t 7) (.seq [3, 2] (.region [⟨0, some 8, .a false (.build [(.int .i64 0), (.int .i64 0), (.int .i64 0), (.int .i64 0)] []) none, none, []⟩,
    ⟨1, none, .a false (.storeB 0 4 (.t 2) (.t 8)) none, none, []⟩,
    ⟨2, some 3, .a false (.mv (.c (.bool false))) none, none, []⟩])
  .ret) .skip))
  (.seq [4, 2] (.region [⟨0, some 9, .a true (.mv (.t 0)) none, none, []⟩,
    ⟨1, some 10, .a false (.indexA 1 (.t 9) (.c (.int .i64 0))) none, none, [0]⟩,
    ⟨2, some 11, .a false (.loadH none (.t 10)) none, none, [0, 1]⟩,
    ⟨3, some 12, .a false (.conv .i64 (.t 11)) none, none, [0, 1, 2]⟩,
    ⟨4, some 13, .a false (.bin .quo (.t 12) (.c (.int .i64 16))) none, none, [0, 1, 2, 3]⟩,
    ⟨5, some 14, .a true (.mv (.t 0)) none, none, []⟩,
    ⟨6, some 15, .a false (.indexA 1 (.t 14) (.c (.int .i64 0))) none, none, [5]⟩,
    ⟨7, some 16, .a false (.loadH none (.t 15)) none, none, [5, 6]⟩,
    ⟨8, some 17, .a false (.conv .i64 (.t 16)) none, none, [5, 6, 7]⟩,
    ⟨9, some 18, .a false (.bin .rem (.t 17) (.c (.int .i64 16))) none, none, [5, 6, 7, 8]⟩,
    ⟨10, some 19, .a true (.mv (.t 0)) none, none, []⟩,
    ⟨11, some 20, .a false (.indexA 1 (.t 19) (.c (.int .i64 1))) none, none, [10]⟩,
    ⟨12, some 21, .a false (.loadH none (.t 20)) none, none, [10, 11]⟩,
    ⟨13, some 22, .a false (.conv .i64 (.t 21)) none, none, [10, 11, 12]⟩,
    ⟨14, some 23, .a true (.mv (.t 0)) none, none, []⟩,
    ⟨15, some 24, .a false (.indexA 1 (.t 23) (.c (.int .i64 2))) none, none, [14]⟩,
    ⟨16, some 25, .a false (.loadH none (.t 24)) none, none, [14, 15]⟩,
    ⟨17, some 26, .a false (.conv .i64 (.t 25)) none, none, [14, 15, 16]⟩,
    ⟨18, some 27, .a false (.build [(.int .i64 0), (.int .i64 0), (.int .i64 0), (.int .i64 0)] [(0, 1, (.t 13)), (3, 1, (.t 18)), (1, 1, (.t 22)), (2, 1, (.t 26))]) none, none, [0, 1, 2, 3, 4, 5, 6, 7, 8, 9, 10, 11, 12, 13, 14, 15, 16, 17]⟩,
    ⟨19, some 4, .a false (.allocH [(.int .i64 0), (.int .i64 0), (.int .i64 0), (.int .i64 0)]) none, none, []⟩,
    ⟨20, none, .a false (.storeH 4 (.t 4) (.t 27)) none, none, [0, 1, 2, 3, 4, 5, 6, 7, 8, 9, 10, 11, 12, 13, 14, 15, 16, 17, 18, 19]⟩])
  (.seq [4, 2] (.seq [30, 4, 2] (.region [⟨0, some 28, .a false (.loadH (some 4) (.t 4)) none, none, []⟩,
    ⟨1, some 29, .call false s_spec_IsAction p_spec_IsAction D_spec_IsAction [(.t 28)], none, []⟩,
    ⟨2, some 30, .a false (.un .not (.t 29)) none, none, []⟩])
  (.cond (.t 30) (.seq [3, 2] (.region [⟨0, some 31, .a false (.build [(.int .i64 0), (.int .i64 0), (.int .i64 0), (.int .i64 0)] []) none, none, []⟩,
    ⟨1, none, .a false (.storeB 0 4 (.t 2) (.t 31)) none, none, []⟩,
    ⟨2, some 3, .a false (.mv (.c (.bool false))) none, none, []⟩])
  .ret) .skip))
  (.seq [3, 2] (.region [⟨0, some 32, .a true (.loadH (some 4) (.t 4)) none, none, []⟩,
    ⟨1, none, .a false (.storeB 0 4 (.t 2) (.t 32)) none, none, []⟩,
    ⟨2, some 3, .a false (.mv (.c (.bool true))) none, none, []⟩])
  .ret)))))
noncomputable def df_spec_UnpackAction : DFun := ⟨1, 33, 1, true, [.cell 2 (some 4), .tmp 3], dc_spec_UnpackAction⟩
noncomputable def pf_spec_UnpackAction : PFun := df_spec_UnpackAction.er
noncomputable def f_spec_UnpackAction : AFun := pf_spec_UnpackAction.er
@[irreducible] noncomputable def s_spec_UnpackAction : CallSem := funSem f_spec_UnpackAction
@[irreducible] noncomputable def p_spec_UnpackAction : PSem := pfunSem pf_spec_UnpackAction
theorem sp_spec_UnpackAction : SoundP s_spec_UnpackAction p_spec_UnpackAction := by unfold s_spec_UnpackAction p_spec_UnpackAction; exact pfun_sound (f := pf_spec_UnpackAction) ⟨sp_spec_IsAction, trivial⟩
def h_spec_UnpackAction : List HT := [.one .frz (.sl (.one (.int .u8)))]
def q_spec_UnpackAction : QT := .tup [.agg [(.own, .int .i64), (.own, .int .i64), (.own, .int .i64), (.own, .int .i64)], .one .own (.bool)]
@[irreducible] noncomputable def v_spec_UnpackAction (x : List (Int)) : (Int × Int × Int × Int) × Bool := fnV df_spec_UnpackAction h_spec_UnpackAction q_spec_UnpackAction x
@[irreducible] noncomputable def ok_spec_UnpackAction (x : List (Int)) : Prop := fnOk df_spec_UnpackAction h_spec_UnpackAction q_spec_UnpackAction x
noncomputable def D_spec_UnpackAction : DSem := DSemOf h_spec_UnpackAction q_spec_UnpackAction ok_spec_UnpackAction v_spec_UnpackAction
theorem ck_spec_UnpackAction (x : List (Int)) : fnChk df_spec_UnpackAction h_spec_UnpackAction q_spec_UnpackAction x = true := by kernel_rfl
theorem ob_spec_UnpackAction : AllD df_spec_UnpackAction.body.obs := ⟨sd_spec_IsAction, trivial⟩
theorem st_spec_UnpackAction : fnSt df_spec_UnpackAction h_spec_UnpackAction q_spec_UnpackAction = true := by kernel_rfl
theorem sd_spec_UnpackAction : SoundD p_spec_UnpackAction D_spec_UnpackAction := by unfold p_spec_UnpackAction; exact soundD_of (f := df_spec_UnpackAction) (hs := h_spec_UnpackAction) (q := q_spec_UnpackAction) ob_spec_UnpackAction st_spec_UnpackAction ck_spec_UnpackAction (fun x h => by unfold ok_spec_UnpackAction at h; exact h) (fun x => by unfold v_spec_UnpackAction; rfl)

noncomputable def dc_impl_isCode : DCode :=
  (.seq [0] (.region [⟨0, some 2, .a false (.mv (.c (.bool false))) none, none, []⟩])
  (.seq [2] (.region [⟨0, some 3, .a false (.mv (.t 0)) none, none, []⟩,
    ⟨1, some 4, .a false (.bin .geq (.t 3) (.c (.int .i64 1))) none, none, []⟩,
    ⟨2, some 5, .a false (.mv (.t 4)) none, none, []⟩,
    ⟨3, some 6, .a false (.mv (.t 0)) none, (some (5, true)), []⟩,
    ⟨4, some 7, .a false (.bin .leq (.t 6) (.c (.int .i64 56))) none, (some (5, true)), []⟩,
    ⟨5, some 8, .a false (.pick (.t 5) (.t 7) (.c (.bool false))) none, none, []⟩,
    ⟨6, some 2, .a false (.mv (.t 8)) none, none, []⟩])
  .ret))
noncomputable def df_impl_isCode : DFun := ⟨1, 9, 0, true, [.tmp 2], dc_impl_isCode⟩
noncomputable def pf_impl_isCode : PFun := df_impl_isCode.er
noncomputable def f_impl_isCode : AFun := pf_impl_isCode.er
@[irreducible] noncomputable def s_impl_isCode : CallSem := funSem f_impl_isCode
@[irreducible] noncomputable def p_impl_isCode : PSem := pfunSem pf_impl_isCode
theorem sp_impl_isCode : SoundP s_impl_isCode p_impl_isCode := by unfold s_impl_isCode p_impl_isCode; exact pfun_sound (f := pf_impl_isCode) trivial
def h_impl_isCode : List HT := [.one .frz (.int .i64)]
def q_impl_isCode : QT := .one (.one .own (.bool))
@[irreducible] noncomputable def v_impl_isCode (x : Int) : Bool := fnV df_impl_isCode h_impl_isCode q_impl_isCode x
@[irreducible] noncomputable def ok_impl_isCode (x : Int) : Prop := fnOk df_impl_isCode h_impl_isCode q_impl_isCode x
noncomputable def D_impl_isCode : DSem := DSemOf h_impl_isCode q_impl_isCode ok_impl_isCode v_impl_isCode
theorem ck_impl_isCode (x : Int) : fnChk df_impl_isCode h_impl_isCode q_impl_isCode x = true := by kernel_rfl
theorem ob_impl_isCode : AllD df_impl_isCode.body.obs := trivial
theorem st_impl_isCode : fnSt df_impl_isCode h_impl_isCode q_impl_isCode = true := by kernel_rfl
theorem sd_impl_isCode : SoundD p_impl_isCode D_impl_isCode := by unfold p_impl_isCode; exact soundD_of (f := df_impl_isCode) (hs := h_impl_isCode) (q := q_impl_isCode) ob_impl_isCode st_impl_isCode ck_impl_isCode (fun x h => by unfold ok_impl_isCode at h; exact h) (fun x => by unfold v_impl_isCode; rfl)

noncomputable def dc_impl_isMods : DCode :=
  (.seq [0] (.region [⟨0, some 2, .a false (.mv (.c (.bool false))) none, none, []⟩])
  (.seq [2] (.region [⟨0, some 3, .a false (.mv (.t 0)) none, none, []⟩,
    ⟨1, some 4, .a false (.bin .geq (.t 3) (.c (.int .i64 1))) none, none, []⟩,
    ⟨2, some 5, .a false (.mv (.t 4)) none, none, []⟩,
    ⟨3, some 6, .a false (.mv (.t 0)) none, (some (5, true)), []⟩,
    ⟨4, some 7, .a false (.bin .leq (.t 6) (.c (.int .i64 15))) none, (some (5, true)), []⟩,
    ⟨5, some 8, .a false (.pick (.t 5) (.t 7) (.c (.bool false))) none, none, []⟩,
    ⟨6, some 2, .a false (.mv (.t 8)) none, none, []⟩])
  .ret))
noncomputable def df_impl_isMods : DFun := ⟨1, 9, 0, true, [.tmp 2], dc_impl_isMods⟩
noncomputable def pf_impl_isMods : PFun := df_impl_isMods.er
noncomputable def f_impl_isMods : AFun := pf_impl_isMods.er
@[irreducible] noncomputable def s_impl_isMods : CallSem := funSem f_impl_isMods
@[irreducible] noncomputable def p_impl_isMods : PSem := pfunSem pf_impl_isMods
theorem sp_impl_isMods : SoundP s_impl_isMods p_impl_isMods := by unfold s_impl_isMods p_impl_isMods; exact pfun_sound (f := pf_impl_isMods) trivial
def h_impl_isMods : List HT := [.one .frz (.int .i64)]
def q_impl_isMods : QT := .one (.one .own (.bool))
@[irreducible] noncomputable def v_impl_isMods (x : Int) : Bool := fnV df_impl_isMods h_impl_isMods q_impl_isMods x
@[irreducible] noncomputable def ok_impl_isMods (x : Int) : Prop := fnOk df_impl_isMods h_impl_isMods q_impl_isMods x
noncomputable def D_impl_isMods : DSem := DSemOf h_impl_isMods q_impl_isMods ok_impl_isMods v_impl_isMods
theorem ck_impl_isMods (x : Int) : fnChk df_impl_isMods h_impl_isMods q_impl_isMods x = true := by kernel_rfl
theorem ob_impl_isMods : AllD df_impl_isMods.body.obs := trivial
theorem st_impl_isMods : fnSt df_impl_isMods h_impl_isMods q_impl_isMods = true := by kernel_rfl
theorem sd_impl_isMods : SoundD p_impl_isMods D_impl_isMods := by unfold p_impl_isMods; exact soundD_of (f := df_impl_isMods) (hs := h_impl_isMods) (q := q_impl_isMods) ob_impl_isMods st_impl_isMods ck_impl_isMods (fun x h => by unfold ok_impl_isMods at h; exact h) (fun x => by unfold v_impl_isMods; rfl)

noncomputable def dc_impl_isUpper : DCode :=
  (.seq [0] (.region [⟨0, some 2, .a false (.mv (.c (.bool false))) none, none, []⟩])
  (.seq [2] (.region [⟨0, some 3, .a false (.mv (.t 0)) none, none, []⟩,
    ⟨1, some 4, .a false (.bin .geq (.t 3) (.c (.int .i64 1))) none, none, []⟩,
    ⟨2, some 5, .a false (.mv (.t 4)) none, none, []⟩,
    ⟨3, some 6, .a false (.mv (.t 0)) none, (some (5, true)), []⟩,
    ⟨4, some 7, .a false (.bin .leq (.t 6) (.c (.int .i64 3))) none, (some (5, true)), []⟩,
    ⟨5, some 8, .a false (.pick (.t 5) (.t 7) (.c (.bool false))) none, none, []⟩,
    ⟨6, some 2, .a false (.mv (.t 8)) none, none, []⟩])
  .ret))
noncomputable def df_impl_isUpper : DFun := ⟨1, 9, 0, true, [.tmp 2], dc_impl_isUpper⟩
noncomputable def pf_impl_isUpper : PFun := df_impl_isUpper.er
noncomputable def f_impl_isUpper : AFun := pf_impl_isUpper.er
@[irreducible] noncomputable def s_impl_isUpper : CallSem := funSem f_impl_isUpper
@[irreducible] noncomputable def p_impl_isUpper : PSem := pfunSem pf_impl_isUpper
theorem sp_impl_isUpper : SoundP s_impl_isUpper p_impl_isUpper := by unfold s_impl_isUpper p_impl_isUpper; exact pfun_sound (f := pf_impl_isUpper) trivial
def h_impl_isUpper : List HT := [.one .frz (.int .i64)]
def q_impl_isUpper : QT := .one (.one .own (.bool))
@[irreducible] noncomputable def v_impl_isUpper (x : Int) : Bool := fnV df_impl_isUpper h_impl_isUpper q_impl_isUpper x
@[irreducible] noncomputable def ok_impl_isUpper (x : Int) : Prop := fnOk df_impl_isUpper h_impl_isUpper q_impl_isUpper x
noncomputable def D_impl_isUpper : DSem := DSemOf h_impl_isUpper q_impl_isUpper ok_impl_isUpper v_impl_isUpper
theorem ck_impl_isUpper (x : Int) : fnChk df_impl_isUpper h_impl_isUpper q_impl_isUpper x = true := by kernel_rfl
theorem ob_impl_isUpper : AllD df_impl_isUpper.body.obs := trivial
theorem st_impl_isUpper : fnSt df_impl_isUpper h_impl_isUpper q_impl_isUpper = true := by kernel_rfl
theorem sd_impl_isUpper : SoundD p_impl_isUpper D_impl_isUpper := by unfold p_impl_isUpper; exact soundD_of (f := df_impl_isUpper) (hs := h_impl_isUpper) (q := q_impl_isUpper) ob_impl_isUpper st_impl_isUpper ck_impl_isUpper (fun x h => by unfold ok_impl_isUpper at h; exact h) (fun x => by unfold v_impl_isUpper; rfl)

noncomputable def dc_impl_IsAction : DCode :=
  (.seq [1] (.region [⟨0, some 1, .a false (.boxB 0 4 (.t 0)) none, none, []⟩,
    ⟨1, some 2, .a false (.mv (.c (.bool false))) none, none, []⟩])
  (.seq [] (.seq [4, 1] (.region [⟨0, some 3, .a false (.fieldA 0 (.t 1)) none, none, []⟩,
    ⟨1, some 4, .a false (.loadB 0 none (.t 3)) none, none, []⟩])
  (.block 0 (.seq [5, 4, 1] (.seq [5, 4, 1] (.region [⟨0, some 6, .a false (.bin .eql (.t 4) (.c (.int .i64 0))) none, none, []⟩,
    ⟨1, some 5, .a false (.mv (.t 6)) none, none, []⟩])
  (.cond (.t 5) .skip (.seq [5, 4, 1] (.region [⟨0, some 7, .a false (.bin .eql (.t 4) (.c (.int .i64 1))) none, none, []⟩,
    ⟨1, some 5, .a false (.mv (.t 7)) none, none, []⟩])
  (.cond (.t 5) .skip (.region [⟨0, some 8, .a false (.bin .eql (.t 4) (.c (.int .i64 10))) none, none, []⟩,
    ⟨1, some 5, .a false (.mv (.t 8)) none, none, []⟩])))))
  (.cond (.t 5) (.seq [2] (.region [⟨0, some 9, .a false (.fieldA 1 (.t 1)) none, none, []⟩,
    ⟨1, some 10, .a false (.loadB 0 none (.t 9)) none, none, []⟩,
    ⟨2, some 11, .a false (.bin .eql (.t 10) (.c (.int .i64 0))) none, none, []⟩,
    ⟨3, some 12, .a false (.mv (.t 11)) none, none, []⟩,
    ⟨4, some 13, .a false (.fieldA 2 (.t 1)) none, (some (12, true)), []⟩,
    ⟨5, some 14, .a false (.loadB 0 none (.t 13)) none, (some (12, true)), []⟩,
    ⟨6, some 15, .a false (.bin .eql (.t 14) (.c (.int .i64 0))) none, (some (12, true)), []⟩,
    ⟨7, some 16, .a false (.pick (.t 12) (.t 15) (.c (.bool false))) none, none, []⟩,
    ⟨8, some 17, .a false (.mv (.t 16)) none, none, []⟩,
    ⟨9, some 18, .a false (.fieldA 3 (.t 1)) none, (some (17, true)), []⟩,
    ⟨10, some 19, .a false (.loadB 0 none (.t 18)) none, (some (17, true)), []⟩,
    ⟨11, some 20, .a false (.bin .eql (.t 19) (.c (.int .i64 0))) none, (some (17, true)), []⟩,
    ⟨12, some 21, .a false (.pick (.t 17) (.t 20) (.c (.bool false))) none, none, []⟩,
    ⟨13, some 2, .a false (.mv (.t 21)) none, none, []⟩])
  .ret) (.seq [22, 4, 1] (.region [⟨0, some 23, .a false (.bin .eql (.t 4) (.c (.int .i64 2))) none, none, []⟩,
    ⟨1, some 22, .a false (.mv (.t 23)) none, none, []⟩])
  (.cond (.t 22) (.seq [2] (.region [⟨0, some 24, .a false (.fieldA 3 (.t 1)) none, none, []⟩,
    ⟨1, some 25, .a false (.loadB 0 none (.t 24)) none, none, []⟩,
    ⟨2, some 26, .a false (.bin .eql (.t 25) (.c (.int .i64 0))) none, none, []⟩,
    ⟨3, some 27, .a false (.mv (.t 26)) none, none, []⟩,
    ⟨4, some 28, .a false (.fieldA 1 (.t 1)) none, (some (27, true)), []⟩,
    ⟨5, some 29, .a false (.loadB 0 none (.t 28)) none, (some (27, true)), []⟩,
    ⟨6, some 30, .a false (.bin .eql (.t 29) (.c (.int .i64 0))) none, (some (27, true)), []⟩,
    ⟨7, some 31, .a false (.mv (.t 30)) none, (some (27, true)), []⟩,
    ⟨8, some 32, .a false (.fieldA 1 (.t 1)) none, (some (31, false)), []⟩,
    ⟨9, some 33, .a false (.loadB 0 none (.t 32)) none, (some (31, false)), []⟩,
    ⟨10, some 34, .call false s_impl_isCode p_impl_isCode D_impl_isCode [(.t 33)], (some (31, false)), []⟩,
    ⟨11, some 35, .a false (.pick (.t 31) (.c (.bool true)) (.t 34)) none, (some (27, true)), []⟩,
    ⟨12, some 36, .a false (.pick (.t 27) (.t 35) (.c (.bool false))) none, none, []⟩,
    ⟨13, some 37, .a false (.mv (.t 36)) none, none, []⟩,
    ⟨14, some 38, .a false (.fieldA 2 (.t 1)) none, (some (37, true)), []⟩,
    ⟨15, some 39, .a false (.loadB 0 none (.t 38)) none, (some (37, true)), []⟩,
    ⟨16, some 40, .a false (.bin .eql (.t 39) (.c (.int .i64 0))) none, (some (37, true)), []⟩,
    ⟨17, some 41, .a false (.mv (.t 40)) none, (some (37, true)), []⟩,
    ⟨18, some 42, .a false (.fieldA 2 (.t 1)) none, (some (41, false)), []⟩,
    ⟨19, some 43, .a false (.loadB 0 none (.t 42)) none, (some (41, false)), []⟩,
    ⟨20, some 44, .call false s_impl_isMods p_impl_isMods D_impl_isMods [(.t 43)], (some (41, false)), []⟩,
    ⟨21, some 45, .a false (.pick (.t 41) (.c (.bool true)) (.t 44)) none, (some (37, true)), []⟩,
    ⟨22, some 46, .a false (.pick (.t 37) (.t 45) (.c (.bool false))) none, none, []⟩,
    ⟨23, some 47, .a false (.mv (.t 46)) none, none, []⟩,
    ⟨24, some 48, .a false (.fieldA 1 (.t 1)) none, (some (47, true)), []⟩,
    ⟨25, some 49, .a false (.loadB 0 none (.t 48)) none, (some (47, true)), []⟩,
    ⟨26, some 50, .a false (.bin .neq (.t 49) (.c (.int .i64 0))) none, (some (47, true)), []⟩,
    ⟨27, some 51, .a false (.mv (.t 50)) none, (some (47, true)), []⟩,
    ⟨28, some 52, .a false (.fieldA 2 (.t 1)) none, (some (51, false)), []⟩,
    ⟨29, some 53, .a false (.loadB 0 none (.t 52)) none, (some (51, false)), []⟩,
    ⟨30, some 54, .a false (.bin .neq (.t 53) (.c (.int .i64 0))) none, (some (51, false)), []⟩,
    ⟨31, some 55, .a false (.pick (.t 51) (.c (.bool true)) (.t 54)) none, (some (47, true)), []⟩,
    ⟨32, some 56, .a false (.pick (.t 47) (.t 55) (.c (.bool false))) none, none, []⟩,
    ⟨33, some 2, .a false (.mv (.t 56)) none, none, []⟩])
  .ret) (.seq [57, 4, 1] (.seq [57, 4, 1] (.region [⟨0, some 58, .a false (.bin .eql (.t 4) (.c (.int .i64 3))) none, none, []⟩,
    ⟨1, some 57, .a false (.mv (.t 58)) none, none, []⟩])
  (.cond (.t 57) .skip (.region [⟨0, some 59, .a false (.bin .eql (.t 4) (.c (.int .i64 4))) none, none, []⟩,
    ⟨1, some 57, .a false (.mv (.t 59)) none, none, []⟩])))
  (.cond (.t 57) (.seq [2] (.region [⟨0, some 60, .a false (.fieldA 1 (.t 1)) none, none, []⟩,
    ⟨1, some 61, .a false (.loadB 0 none (.t 60)) none, none, []⟩,
    ⟨2, some 62, .a false (.bin .eql (.t 61) (.c (.int .i64 0))) none, none, []⟩,
    ⟨3, some 63, .a false (.mv (.t 62)) none, none, []⟩,
    ⟨4, some 64, .a false (.fieldA 2 (.t 1)) none, (some (63, true)), []⟩,
    ⟨5, some 65, .a false (.loadB 0 none (.t 64)) none, (some (63, true)), []⟩,
    ⟨6, some 66, .a false (.bin .eql (.t 65) (.c (.int .i64 0))) none, (some (63, true)), []⟩,
    ⟨7, some 67, .a false (.pick (.t 63) (.t 66) (.c (.bool false))) none, none, []⟩,
    ⟨8, some 68, .a false (.mv (.t 67)) none, none, []⟩,
    ⟨9, some 69, .a false (.fieldA 3 (.t 1)) none, (some (68, true)), []⟩,
    ⟨10, some 70, .a false (.loadB 0 none (.t 69)) none, (some (68, true)), []⟩,
    ⟨11, some 71, .call false s_impl_isUpper p_impl_isUpper D_impl_isUpper [(.t 70)], (some (68, true)), []⟩,
    ⟨12, some 72, .a false (.pick (.t 68) (.t 71) (.c (.bool false))) none, none, []⟩,
    ⟨13, some 2, .a false (.mv (.t 72)) none, none, []⟩])
  .ret) (.seq [73, 4, 1] (.region [⟨0, some 74, .a false (.bin .eql (.t 4) (.c (.int .i64 5))) none, none, []⟩,
    ⟨1, some 73, .a false (.mv (.t 74)) none, none, []⟩])
  (.cond (.t 73) (.seq [2] (.region [⟨0, some 75, .a false (.fieldA 1 (.t 1)) none, none, []⟩,
    ⟨1, some 76, .a false (.loadB 0 none (.t 75)) none, none, []⟩,
    ⟨2, some 77, .a false (.bin .eql (.t 76) (.c (.int .i64 0))) none, none, []⟩,
    ⟨3, some 78, .a false (.mv (.t 77)) none, none, []⟩,
    ⟨4, some 79, .a false (.fieldA 2 (.t 1)) none, (some (78, true)), []⟩,
    ⟨5, some 80, .a false (.loadB 0 none (.t 79)) none, (some (78, true)), []⟩,
    ⟨6, some 81, .a false (.bin .eql (.t 80) (.c (.int .i64 0))) none, (some (78, true)), []⟩,
    ⟨7, some 82, .a false (.pick (.t 78) (.t 81) (.c (.bool false))) none, none, []⟩,
    ⟨8, some 83, .a false (.mv (.t 82)) none, none, []⟩,
    ⟨9, some 84, .a false (.fieldA 3 (.t 1)) none, (some (83, true)), []⟩,
    ⟨10, some 85, .a false (.loadB 0 none (.t 84)) none, (some (83, true)), []⟩,
    ⟨11, some 86, .a false (.bin .geq (.t 85) (.c (.int .i64 0))) none, (some (83, true)), []⟩,
    ⟨12, some 87, .a false (.pick (.t 83) (.t 86) (.c (.bool false))) none, none, []⟩,
    ⟨13, some 88, .a false (.mv (.t 87)) none, none, []⟩,
    ⟨14, some 89, .a false (.fieldA 3 (.t 1)) none, (some (88, true)), []⟩,
    ⟨15, some 90, .a false (.loadB 0 none (.t 89)) none, (some (88, true)), []⟩,
    ⟨16, some 91, .a false (.bin .leq (.t 90) (.c (.int .i64 3))) none, (some (88, true)), []⟩,
    ⟨17, some 92, .a false (.pick (.t 88) (.t 91) (.c (.bool false))) none, none, []⟩,
    ⟨18, some 2, .a false (.mv (.t 92)) none, none, []⟩])
  .ret) (.seq [93, 4, 1] (.region [⟨0, some 94, .a false (.bin .eql (.t 4) (.c (.int .i64 9))) none, none, []⟩,
    ⟨1, some 93, .a false (.mv (.t 94)) none, none, []⟩])
  (.cond (.t 93) (.seq [2] (.region [⟨0, some 95, .a false (.fieldA 1 (.t 1)) none, none, []⟩,
    ⟨1, some 96, .a false (.loadB 0 none (.t 95)) none, none, []⟩,
    ⟨2, some 97, .a false (.bin .eql (.t 96) (.c (.int .i64 0))) none, none, []⟩,
    ⟨3, some 98, .a false (.mv (.t 97)) none, none, []⟩,
    ⟨4, some 99, .a false (.fieldA 2 (.t 1)) none, (some (98, true)), []⟩,
    ⟨5, some 100, .a false (.loadB 0 none (.t 99)) none, (some (98, true)), []⟩,
    ⟨6, some 101, .a false (.bin .eql (.t 100) (.c (.int .i64 0))) none, (some (98, true)), []⟩,
    ⟨7, some 102, .a false (.pick (.t 98) (.t 101) (.c (.bool false))) none, none, []⟩,
    ⟨8, some 103, .a false (.mv (.t 102)) none, none, []⟩,
    ⟨9, some 104, .a false (.fieldA 3 (.t 1)) none, (some (103, true)), []⟩,
    ⟨10, some 105, .a false (.loadB 0 none (.t 104)) none, (some (103, true)), []⟩,
    ⟨11, some 106, .a false (.bin .geq (.t 105) (.c (.int .i64 0))) none, (some (103, true)), []⟩,
    ⟨12, some 107, .a false (.pick (.t 103) (.t 106) (.c (.bool false))) none, none, []⟩,
    ⟨13, some 108, .a false (.mv (.t 107)) none, none, []⟩,
    ⟨14, some 109, .a false (.fieldA 3 (.t 1)) none, (some (108, true)), []⟩,
    ⟨15, some 110, .a false (.loadB 0 none (.t 109)) none, (some (108, true)), []⟩,
    ⟨16, some 111, .a false (.bin .leq (.t 110) (.c (.int .i64 3))) none, (some (108, true)), []⟩,
    ⟨17, some 112, .a false (.pick (.t 108) (.t 111) (.c (.bool false))) none, none, []⟩,
    ⟨18, some 2, .a false (.mv (.t 112)) none, none, []⟩])
  .ret) (.seq [113, 4, 1] (.region [⟨0, some 114, .a false (.bin .eql (.t 4) (.c (.int .i64 6))) none, none, []⟩,
    ⟨1, some 113, .a false (.mv (.t 114)) none, none, []⟩])
  (.cond (.t 113) (.seq [2] (.region [⟨0, some 115, .a false (.fieldA 1 (.t 1)) none, none, []⟩,
    ⟨1, some 116, .a false (.loadB 0 none (.t 115)) none, none, []⟩,
    ⟨2, some 117, .call false s_impl_isCode p_impl_isCode D_impl_isCode [(.t 116)], none, []⟩,
    ⟨3, some 118, .a false (.mv (.t 117)) none, none, []⟩,
    ⟨4, some 119, .a false (.fieldA 2 (.t 1)) none, (some (118, true)), []⟩,
    ⟨5, some 120, .a false (.loadB 0 none (.t 119)) none, (some (118, true)), []⟩,
    ⟨6, some 121, .call false s_impl_isMods p_impl_isMods D_impl_isMods [(.t 120)], (some (118, true)), []⟩,
    ⟨7, some 122, .a false (.pick (.t 118) (.t 121) (.c (.bool false))) none, none, []⟩,
    ⟨8, some 123, .a false (.mv (.t 122)) none, none, []⟩,
    ⟨9, some 124, .a false (.fieldA 3 (.t 1)) none, (some (123, true)), []⟩,
    ⟨10, some 125, .a false (.loadB 0 none (.t 124)) none, (some (123, true)), []⟩,
    ⟨11, some 126, .a false (.bin .eql (.t 125) (.c (.int .i64 0))) none, (some (123, true)), []⟩,
    ⟨12, some 127, .a false (.pick (.t 123) (.t 126) (.c (.bool false))) none, none, []⟩,
    ⟨13, some 2, .a false (.mv (.t 127)) none, none, []⟩])
  .ret) (.seq [128, 4, 1] (.region [⟨0, some 129, .a false (.bin .eql (.t 4) (.c (.int .i64 7))) none, none, []⟩,
    ⟨1, some 128, .a false (.mv (.t 129)) none, none, []⟩])
  (.cond (.t 128) (.seq [2] (.region [⟨0, some 130, .a false (.fieldA 1 (.t 1)) none, none, []⟩,
    ⟨1, some 131, .a false (.loadB 0 none (.t 130)) none, none, []⟩,
    ⟨2, some 132, .call false s_impl_isCode p_impl_isCode D_impl_isCode [(.t 131)], none, []⟩,
    ⟨3, some 133, .a false (.mv (.t 132)) none, none, []⟩,
    ⟨4, some 134, .a false (.fieldA 2 (.t 1)) none, (some (133, true)), []⟩,
    ⟨5, some 135, .a false (.loadB 0 none (.t 134)) none, (some (133, true)), []⟩,
    ⟨6, some 136, .a false (.bin .eql (.t 135) (.c (.int .i64 0))) none, (some (133, true)), []⟩,
    ⟨7, some 137, .a false (.pick (.t 133) (.t 136) (.c (.bool false))) none, none, []⟩,
    ⟨8, some 138, .a false (.mv (.t 137)) none, none, []⟩,
    ⟨9, some 139, .a false (.fieldA 3 (.t 1)) none, (some (138, true)), []⟩,
    ⟨10, some 140, .a false (.loadB 0 none (.t 139)) none, (some (138, true)), []⟩,
    ⟨11, some 141, .call false s_impl_isUpper p_impl_isUpper D_impl_isUpper [(.t 140)], (some (138, true)), []⟩,
    ⟨12, some 142, .a false (.pick (.t 138) (.t 141) (.c (.bool false))) none, none, []⟩,
    ⟨13, some 2, .a false (.mv (.t 142)) none, none, []⟩])
  .ret) (.seq [143, 1] (.region [⟨0, some 144, .a false (.bin .eql (.t 4) (.c (.int .i64 8))) none, none, []⟩,
    ⟨1, some 143, .a false (.mv (.t 144)) none, none, []⟩])
  (.cond (.t 143) (.seq [2] (.region [⟨0, some 145, .a false (.fieldA 1 (.t 1)) none, none, []⟩,
    ⟨1, some 146, .a false (.loadB 0 none (.t 145)) none, none, []⟩,
    ⟨2, some 147, .a false (.bin .eql (.t 146) (.c (.int .i64 0))) none, none, []⟩,
    ⟨3, some 148, .a false (.mv (.t 147)) none, none, []⟩,
    ⟨4, some 149, .a false (.fieldA 2 (.t 1)) none, (some (148, true)), []⟩,
    ⟨5, some 150, .a false (.loadB 0 none (.t 149)) none, (some (148, true)), []⟩,
    ⟨6, some 151, .call false s_impl_isMods p_impl_isMods D_impl_isMods [(.t 150)], (some (148, true)), []⟩,
    ⟨7, some 152, .a false (.pick (.t 148) (.t 151) (.c (.bool false))) none, none, []⟩,
    ⟨8, some 153, .a false (.mv (.t 152)) none, none, []⟩,
    ⟨9, some 154, .a false (.fieldA 3 (.t 1)) none, (some (153, true)), []⟩,
    ⟨10, some 155, .a false (.loadB 0 none (.t 154)) none, (some (153, true)), []⟩,
    ⟨11, some 156, .a false (.bin .eql (.t 155) (.c (.int .i64 0))) none, (some (153, true)), []⟩,
    ⟨12, some 157, .a false (.pick (.t 153) (.t 156) (.c (.bool false))) none, none, []⟩,
    ⟨13, some 2, .a false (.mv (.t 157)) none, none, []⟩])
  .ret) .skip))))))))))))))))))
  (.seq [2] (.region [⟨0, some 2, .a false (.mv (.c (.bool false))) none, none, []⟩])
  .ret)))
noncomputable def df_impl_IsAction : DFun := ⟨1, 158, 1, true, [.tmp 2], dc_impl_IsAction⟩
noncomputable def pf_impl_IsAction : PFun := df_impl_IsAction.er
noncomputable def f_impl_IsAction : AFun := pf_impl_IsAction.er
@[irreducible] noncomputable def s_impl_IsAction : CallSem := funSem f_impl_IsAction
@[irreducible] noncomputable def p_impl_IsAction : PSem := pfunSem pf_impl_IsAction
theorem sp_impl_IsAction : SoundP s_impl_IsAction p_impl_IsAction := by unfold s_impl_IsAction p_impl_IsAction; exact pfun_sound (f := pf_impl_IsAction) ⟨sp_impl_isCode, sp_impl_isMods, sp_impl_isUpper, sp_impl_isCode, sp_impl_isMods, sp_impl_isCode, sp_impl_isUpper, sp_impl_isMods, trivial⟩
def h_impl_IsAction : List HT := [.agg [(.frz, .int .i64), (.frz, .int .i64), (.frz, .int .i64), (.frz, .int .i64)]]
def q_impl_IsAction : QT := .one (.one .own (.bool))
@[irreducible] noncomputable def v_impl_IsAction (x : Int × Int × Int × Int) : Bool := fnV df_impl_IsAction h_impl_IsAction q_impl_IsAction x
@[irreducible] noncomputable def ok_impl_IsAction (x : Int × Int × Int × Int) : Prop := fnOk df_impl_IsAction h_impl_IsAction q_impl_IsAction x
noncomputable def D_impl_IsAction : DSem := DSemOf h_impl_IsAction q_impl_IsAction ok_impl_IsAction v_impl_IsAction
theorem ck_impl_IsAction (x : Int × Int × Int × Int) : fnChk df_impl_IsAction h_impl_IsAction q_impl_IsAction x = true := by kernel_rfl
theorem ob_impl_IsAction : AllD df_impl_IsAction.body.obs := ⟨sd_impl_isCode, sd_impl_isMods, sd_impl_isUpper, sd_impl_isCode, sd_impl_isMods, sd_impl_isCode, sd_impl_isUpper, sd_impl_isMods, trivial⟩
theorem st_impl_IsAction : fnSt df_impl_IsAction h_impl_IsAction q_impl_IsAction = true := by kernel_rfl
theorem sd_impl_IsAction : SoundD p_impl_IsAction D_impl_IsAction := by unfold p_impl_IsAction; exact soundD_of (f := df_impl_IsAction) (hs := h_impl_IsAction) (q := q_impl_IsAction) ob_impl_IsAction st_impl_IsAction ck_impl_IsAction (fun x h => by unfold ok_impl_IsAction at h; exact h) (fun x => by unfold v_impl_IsAction; rfl)

noncomputable def dc_impl_UnpackAction : DCode :=
  (.seq [2, 0] (.region [⟨0, some 2, .a false (.allocB 0 [(.int .i64 0), (.int .i64 0), (.int .i64 0), (.int .i64 0)]) none, none, []⟩,
    ⟨1, some 3, .a false (.mv (.c (.bool false))) none, none, []⟩])
  (.seq [2, 0] (.seq [7, 2, 0] (.region [⟨0, some 5, .a true (.mv (.t 0)) none, none, []⟩,
    ⟨1, some 6, .a false (.len (.t 5)) none, none, []⟩,
    ⟨2, some 7, .a false (.bin .neq (.t 6) (.c (.int .i64 3))) none, none, []⟩])
  (.cond (.t 7) (.seq [3, 2] (.region [⟨0, some 8, .a false (.build [(.int .i64 0), (.int .i64 0), (.int .i64 0), (.int .i64 0)] []) none, none, []⟩,
    ⟨1, none, .a false (.storeB 0 4 (.t 2) (.t 8)) none, none, []⟩,
    ⟨2, some 3, .a false (.mv (.c (.bool false))) none, none, []⟩])
  .ret) .skip))
  (.seq [4, 2] (.region [⟨0, some 9, .a true (.mv (.t 0)) none, none, []⟩,
    ⟨1, some 10, .a false (.indexA 1 (.t 9) (.c (.int .i64 0))) none, none, [0]⟩,
    ⟨2, some 11, .a false (.loadH none (.t 10)) none, none, [0, 1]⟩,
    ⟨3, some 12, .a false (.conv .i64 (.t 11)) none, none, [0, 1, 2]⟩,
    ⟨4, some 13, .a false (.bin .quo (.t 12) (.c (.int .i64 16))) none, none, [0, 1, 2, 3]⟩,
    ⟨5, some 14, .a true (.mv (.t 0)) none, none, []⟩,
    ⟨6, some 15, .a false (.indexA 1 (.t 14) (.c (.int .i64 1))) none, none, [5]⟩,
    ⟨7, some 16, .a false (.loadH none (.t 15)) none, none, [5, 6]⟩,
    ⟨8, some 17, .a false (.conv .i64 (.t 16)) none, none, [5, 6, 7]⟩,
    ⟨9, some 18, .a true (.mv (.t 0)) none, none, []⟩,
    ⟨10, some 19, .a false (.indexA 1 (.t 18) (.c (.int .i64 2))) none, none, [9]⟩,
    ⟨11, some 20, .a false (.loadH none (.t 19)) none, none, [9, 10]⟩,
    ⟨12, some 21, .a false (.conv .i64 (.t 20)) none, none, [9, 10, 11]⟩,
    ⟨13, some 22, .a true (.mv (.t 0)) none, none, []⟩,
    ⟨14, some 23, .a false (.indexA 1 (.t 22) (.c (.int .i64 0))) none, none, [13]⟩,
    ⟨15, some 24, .a false (.loadH none (.t 23)) none, none, [13, 14]⟩,
    ⟨16, some 25, .a false (.conv .i64 (.t 24)) none, none, [13, 14, 15]⟩,
    ⟨17, some 26, .a false (.bin .rem (.t 25) (.c (.int .i64 16))) none, none, [13, 14, 15, 16]⟩,
    ⟨18, some 27, .a false (.build [(.int .i64 0), (.int .i64 0), (.int .i64 0), (.int .i64 0)] [(0, 1, (.t 13)), (1, 1, (.t 17)), (2, 1, (.t 21)), (3, 1, (.t 26))]) none, none, [0, 1, 2, 3, 4, 5, 6, 7, 8, 9, 10, 11, 12, 13, 14, 15, 16, 17]⟩,
    ⟨19, some 4, .a false (.allocH [(.int .i64 0), (.int .i64 0), (.int .i64 0), (.int .i64 0)]) none, none, []⟩,
    ⟨20, none, .a false (.storeH 4 (.t 4) (.t 27)) none, none, [0, 1, 2, 3, 4, 5, 6, 7, 8, 9, 10, 11, 12, 13, 14, 15, 16, 17, 18, 19]⟩])
  (.seq [4, 2] (.seq [30, 4, 2] (.region [⟨0, some 28, .a false (.loadH (some 4) (.t 4)) none, none, []⟩,
    ⟨1, some 29, .call false s_impl_IsAction p_impl_IsAction D_impl_IsAction [(.t 28)], none, []⟩,
    ⟨2, some 30, .a false (.un .not (.t 29)) none, none, []⟩])
  (.cond (.t 30) (.seq [3, 2] (.region [⟨0, some 31, .a false (.build [(.int .i64 0), (.int .i64 0), (.int .i64 0), (.int .i64 0)] []) none, none, []⟩,
    ⟨1, none, .a false (.storeB 0 4 (.t 2) (.t 31)) none, none, []⟩,
    ⟨2, some 3, .a false (.mv (.c (.bool false))) none, none, []⟩])
  .ret) .skip))
  (.seq [3, 2] (.region [⟨0, some 32, .a true (.loadH (some 4) (.t 4)) none, none, []⟩,
    ⟨1, none, .a false (.storeB 0 4 (.t 2) (.t 32)) none, none, []⟩,
    ⟨2, some 3, .a false (.mv (.c (.bool true))) none, none, []⟩])
  .ret)))))
noncomputable def df_impl_UnpackAction : DFun := ⟨1, 33, 1, true, [.cell 2 (some 4), .tmp 3], dc_impl_UnpackAction⟩
noncomputable def pf_impl_UnpackAction : PFun := df_impl_UnpackAction.er
noncomputable def f_impl_UnpackAction : AFun := pf_impl_UnpackAction.er
@[irreducible] noncomputable def s_impl_UnpackAction : CallSem := funSem f_impl_UnpackAction
@[irreducible] noncomputable def p_impl_UnpackAction : PSem := pfunSem pf_impl_UnpackAction
theorem sp_impl_UnpackAction : SoundP s_impl_UnpackAction p_impl_UnpackAction := by unfold s_impl_UnpackAction p_impl_UnpackAction; exact pfun_sound (f := pf_impl_UnpackAction) ⟨sp_impl_IsAction, trivial⟩
def h_impl_UnpackAction : List HT := [.one .frz (.sl (.one (.int .u8)))]
def q_impl_UnpackAction : QT := .tup [.agg [(.own, .int .i64), (.own, .int .i64), (.own, .int .i64), (.own, .int .i64)], .one .own (.bool)]
@[irreducible] noncomputable def v_impl_UnpackAction (x : List (Int)) : (Int × Int × Int × Int) × Bool := fnV df_impl_UnpackAction h_impl_UnpackAction q_impl_UnpackAction x
@[irreducible] noncomputable def ok_impl_UnpackAction (x : List (Int)) : Prop := fnOk df_impl_UnpackAction h_impl_UnpackAction q_impl_UnpackAction x
noncomputable def D_impl_UnpackAction : DSem := DSemOf h_impl_UnpackAction q_impl_UnpackAction ok_impl_UnpackAction v_impl_UnpackAction
theorem ck_impl_UnpackAction (x : List (Int)) : fnChk df_impl_UnpackAction h_impl_UnpackAction q_impl_UnpackAction x = true := by kernel_rfl
theorem ob_impl_UnpackAction : AllD df_impl_UnpackAction.body.obs := ⟨sd_impl_IsAction, trivial⟩
theorem st_impl_UnpackAction : fnSt df_impl_UnpackAction h_impl_UnpackAction q_impl_UnpackAction = true := by kernel_rfl
theorem sd_impl_UnpackAction : SoundD p_impl_UnpackAction D_impl_UnpackAction := by unfold p_impl_UnpackAction; exact soundD_of (f := df_impl_UnpackAction) (hs := h_impl_UnpackAction) (q := q_impl_UnpackAction) ob_impl_UnpackAction st_impl_UnpackAction ck_impl_UnpackAction (fun x h => by unfold ok_impl_UnpackAction at h; exact h) (fun x => by unfold v_impl_UnpackAction; rfl)

noncomputable def dc_laws_eqAction : DCode :=
  (.seq [3, 2] (.region [⟨0, some 2, .a false (.boxB 0 4 (.t 0)) none, none, []⟩,
    ⟨1, some 3, .a false (.boxB 1 4 (.t 1)) none, none, []⟩,
    ⟨2, some 4, .a false (.mv (.c (.bool false))) none, none, []⟩])
  (.seq [3, 2] (.seq [9, 3, 2] (.region [⟨0, some 5, .a false (.fieldA 0 (.t 2)) none, none, []⟩,
    ⟨1, some 6, .a false (.loadB 0 none (.t 5)) none, none, []⟩,
    ⟨2, some 7, .a false (.fieldA 0 (.t 3)) none, none, []⟩,
    ⟨3, some 8, .a false (.loadB 1 none (.t 7)) none, none, []⟩,
    ⟨4, some 9, .a false (.bin .neq (.t 6) (.t 8)) none, none, []⟩])
  (.cond (.t 9) (.seq [4] (.region [⟨0, some 4, .a false (.mv (.c (.bool false))) none, none, []⟩])
  .ret) .skip))
  (.seq [3, 2] (.seq [14, 3, 2] (.region [⟨0, some 10, .a false (.fieldA 1 (.t 2)) none, none, []⟩,
    ⟨1, some 11, .a false (.loadB 0 none (.t 10)) none, none, []⟩,
    ⟨2, some 12, .a false (.fieldA 1 (.t 3)) none, none, []⟩,
    ⟨3, some 13, .a false (.loadB 1 none (.t 12)) none, none, []⟩,
    ⟨4, some 14, .a false (.bin .neq (.t 11) (.t 13)) none, none, []⟩])
  (.cond (.t 14) (.seq [4] (.region [⟨0, some 4, .a false (.mv (.c (.bool false))) none, none, []⟩])
  .ret) .skip))
  (.seq [3, 2] (.seq [19, 3, 2] (.region [⟨0, some 15, .a false (.fieldA 2 (.t 2)) none, none, []⟩,
    ⟨1, some 16, .a false (.loadB 0 none (.t 15)) none, none, []⟩,
    ⟨2, some 17, .a false (.fieldA 2 (.t 3)) none, none, []⟩,
    ⟨3, some 18, .a false (.loadB 1 none (.t 17)) none, none, []⟩,
    ⟨4, some 19, .a false (.bin .neq (.t 16) (.t 18)) none, none, []⟩])
  (.cond (.t 19) (.seq [4] (.region [⟨0, some 4, .a false (.mv (.c (.bool false))) none, none, []⟩])
  .ret) .skip))
  (.seq [] (.seq [24] (.region [⟨0, some 20, .a false (.fieldA 3 (.t 2)) none, none, []⟩,
    ⟨1, some 21, .a false (.loadB 0 none (.t 20)) none, none, []⟩,
    ⟨2, some 22, .a false (.fieldA 3 (.t 3)) none, none, []⟩,
    ⟨3, some 23, .a false (.loadB 1 none (.t 22)) none, none, []⟩,
    ⟨4, some 24, .a false (.bin .neq (.t 21) (.t 23)) none, none, []⟩])
  (.cond (.t 24) (.seq [4] (.region [⟨0, some 4, .a false (.mv (.c (.bool false))) none, none, []⟩])
  .ret) .skip))
  (.seq [4] (.region [⟨0, some 4, .a false (.mv (.c (.bool true))) none, none, []⟩])
  .ret))))))
noncomputable def df_laws_eqAction : DFun := ⟨2, 25, 2, true, [.tmp 4], dc_laws_eqAction⟩
noncomputable def pf_laws_eqAction : PFun := df_laws_eqAction.er
noncomputable def f_laws_eqAction : AFun := pf_laws_eqAction.er
@[irreducible] noncomputable def s_laws_eqAction : CallSem := funSem f_laws_eqAction
@[irreducible] noncomputable def p_laws_eqAction : PSem := pfunSem pf_laws_eqAction
theorem sp_laws_eqAction : SoundP s_laws_eqAction p_laws_eqAction := by unfold s_laws_eqAction p_laws_eqAction; exact pfun_sound (f := pf_laws_eqAction) trivial
def h_laws_eqAction : List HT := [.agg [(.frz, .int .i64), (.frz, .int .i64), (.frz, .int .i64), (.frz, .int .i64)], .agg [(.frz, .int .i64), (.frz, .int .i64), (.frz, .int .i64), (.frz, .int .i64)]]
def q_laws_eqAction : QT := .one (.one .own (.bool))
@[irreducible] noncomputable def v_laws_eqAction (x : (Int × Int × Int × Int) × (Int × Int × Int × Int)) : Bool := fnV df_laws_eqAction h_laws_eqAction q_laws_eqAction x
@[irreducible] noncomputable def ok_laws_eqAction (x : (Int × Int × Int × Int) × (Int × Int × Int × Int)) : Prop := fnOk df_laws_eqAction h_laws_eqAction q_laws_eqAction x
noncomputable def D_laws_eqAction : DSem := DSemOf h_laws_eqAction q_laws_eqAction ok_laws_eqAction v_laws_eqAction
theorem ck_laws_eqAction (x : (Int × Int × Int × Int) × (Int × Int × Int × Int)) : fnChk df_laws_eqAction h_laws_eqAction q_laws_eqAction x = true := by kernel_rfl
theorem ob_laws_eqAction : AllD df_laws_eqAction.body.obs := trivial
theorem st_laws_eqAction : fnSt df_laws_eqAction h_laws_eqAction q_laws_eqAction = true := by kernel_rfl
theorem sd_laws_eqAction : SoundD p_laws_eqAction D_laws_eqAction := by unfold p_laws_eqAction; exact soundD_of (f := df_laws_eqAction) (hs := h_laws_eqAction) (q := q_laws_eqAction) ob_laws_eqAction st_laws_eqAction ck_laws_eqAction (fun x h => by unfold ok_laws_eqAction at h; exact h) (fun x => by unfold v_laws_eqAction; rfl)

noncomputable def dc_laws_eqByteS : DCode :=
  (.seq [1, 0] (.region [⟨0, some 4, .a false (.mv (.c (.bool false))) none, none, []⟩])
  (.seq [1, 0] (.seq [10, 1, 0] (.region [⟨0, some 6, .a true (.mv (.t 0)) none, none, []⟩,
    ⟨1, some 7, .a false (.len (.t 6)) none, none, []⟩,
    ⟨2, some 8, .a true (.mv (.t 1)) none, none, []⟩,
    ⟨3, some 9, .a false (.len (.t 8)) none, none, []⟩,
    ⟨4, some 10, .a false (.bin .neq (.t 7) (.t 9)) none, none, []⟩])
  (.cond (.t 10) (.seq [4] (.region [⟨0, some 4, .a false (.mv (.c (.bool false))) none, none, []⟩])
  .ret) .skip))
  (.seq [] (.seq [5, 1, 0] (.region [⟨0, some 5, .a false (.mv (.c (.int .i64 0))) none, none, []⟩])
  (.block 0 (.loop [0, 1, 5] 1 (.seq [5, 1, 0] (.seq [14, 5, 1, 0] (.region [⟨0, some 11, .a false (.mv (.t 5)) none, none, []⟩,
    ⟨1, some 12, .a true (.mv (.t 0)) none, none, []⟩,
    ⟨2, some 13, .a false (.len (.t 12)) none, none, []⟩,
    ⟨3, some 14, .a false (.bin .lss (.t 11) (.t 13)) none, none, []⟩])
  (.cond (.t 14) .skip (.exit 0)))
  (.seq [5, 1, 0] (.block 1 (.seq [25, 5, 1, 0] (.region [⟨0, some 17, .a true (.mv (.t 0)) none, none, []⟩,
    ⟨1, some 18, .a false (.mv (.t 5)) none, none, []⟩,
    ⟨2, some 19, .a false (.indexA 1 (.t 17) (.t 18)) none, none, [0, 1]⟩,
    ⟨3, some 20, .a false (.loadH none (.t 19)) none, none, [0, 1, 2]⟩,
    ⟨4, some 21, .a true (.mv (.t 1)) none, none, []⟩,
    ⟨5, some 22, .a false (.mv (.t 5)) none, none, []⟩,
    ⟨6, some 23, .a false (.indexA 1 (.t 21) (.t 22)) none, none, [4, 5]⟩,
    ⟨7, some 24, .a false (.loadH none (.t 23)) none, none, [4, 5, 6]⟩,
    ⟨8, some 25, .a false (.bin .neq (.t 20) (.t 24)) none, none, [0, 1, 2, 3, 4, 5, 6, 7]⟩])
  (.cond (.t 25) (.seq [4] (.region [⟨0, some 4, .a false (.mv (.c (.bool false))) none, none, []⟩])
  .ret) .skip)))
  (.region [⟨0, some 15, .a false (.mv (.t 5)) none, none, []⟩,
    ⟨1, some 16, .a false (.bin .add (.t 15) (.c (.int .i64 1))) none, none, []⟩,
    ⟨2, some 5, .a false (.mv (.t 16)) none, none, []⟩]))))))
  (.seq [4] (.region [⟨0, some 4, .a false (.mv (.c (.bool true))) none, none, []⟩])
  .ret))))
noncomputable def df_laws_eqByteS : DFun := ⟨2, 26, 0, true, [.tmp 4], dc_laws_eqByteS⟩
noncomputable def pf_laws_eqByteS : PFun := df_laws_eqByteS.er
noncomputable def f_laws_eqByteS : AFun := pf_laws_eqByteS.er
@[irreducible] noncomputable def s_laws_eqByteS : CallSem := funSem f_laws_eqByteS
@[irreducible] noncomputable def p_laws_eqByteS : PSem := pfunSem pf_laws_eqByteS
theorem sp_laws_eqByteS : SoundP s_laws_eqByteS p_laws_eqByteS := by unfold s_laws_eqByteS p_laws_eqByteS; exact pfun_sound (f := pf_laws_eqByteS) trivial
def h_laws_eqByteS : List HT := [.one .frz (.sl (.one (.int .u8))), .one .frz (.sl (.one (.int .u8)))]
def q_laws_eqByteS : QT := .one (.one .own (.bool))
@[irreducible] noncomputable def v_laws_eqByteS (x : List (Int) × List (Int)) : Bool := fnV df_laws_eqByteS h_laws_eqByteS q_laws_eqByteS x
@[irreducible] noncomputable def ok_laws_eqByteS (x : List (Int) × List (Int)) : Prop := fnOk df_laws_eqByteS h_laws_eqByteS q_laws_eqByteS x
noncomputable def D_laws_eqByteS : DSem := DSemOf h_laws_eqByteS q_laws_eqByteS ok_laws_eqByteS v_laws_eqByteS
theorem ck_laws_eqByteS (x : List (Int) × List (Int)) : fnChk df_laws_eqByteS h_laws_eqByteS q_laws_eqByteS x = true := by kernel_rfl
theorem ob_laws_eqByteS : AllD df_laws_eqByteS.body.obs := trivial
theorem st_laws_eqByteS : fnSt df_laws_eqByteS h_laws_eqByteS q_laws_eqByteS = true := by kernel_rfl
theorem sd_laws_eqByteS : SoundD p_laws_eqByteS D_laws_eqByteS := by unfold p_laws_eqByteS; exact soundD_of (f := df_laws_eqByteS) (hs := h_laws_eqByteS) (q := q_laws_eqByteS) ob_laws_eqByteS st_laws_eqByteS ck_laws_eqByteS (fun x h => by unfold ok_laws_eqByteS at h; exact h) (fun x => by unfold v_laws_eqByteS; rfl)

noncomputable def dc_laws_FnExactUnpackAction : DCode :=
  (.seq [0] (.region [⟨0, some 2, .a false (.mv (.c (.bool false))) none, none, []⟩])
  (.seq [0] (.seq [10, 0] (.region [⟨0, some 8, .a true (.mv (.t 0)) none, none, []⟩,
    ⟨1, some 9, .a false (.len (.t 8)) none, none, []⟩,
    ⟨2, some 10, .a false (.bin .gtr (.t 9) (.c (.int .i64 1048576))) none, none, []⟩])
  (.cond (.t 10) (.seq [2] (.region [⟨0, some 2, .a false (.mv (.c (.bool true))) none, none, []⟩])
  .ret) .skip))
  (.seq [4, 3, 0] (.region [⟨0, some 12, .a true (.mv (.t 0)) none, none, []⟩,
    ⟨1, some 13, .call false s_laws_toByteS p_laws_toByteS D_laws_toByteS [(.t 12)], none, []⟩,
    ⟨2, some 14, .call false s_spec_UnpackAction p_spec_UnpackAction D_spec_UnpackAction [(.t 13)], none, []⟩,
    ⟨3, some 11, .a false (.mv (.t 14)) none, none, []⟩,
    ⟨4, some 15, .a false (.extract (.t 11) 0) none, none, []⟩,
    ⟨5, some 16, .a false (.extract (.t 11) 1) none, none, []⟩,
    ⟨6, some 3, .a false (.allocB 0 [(.int .i64 0), (.int .i64 0), (.int .i64 0), (.int .i64 0)]) none, none, []⟩,
    ⟨7, none, .a false (.storeB 0 4 (.t 3) (.t 15)) none, none, []⟩,
    ⟨8, some 4, .a false (.mv (.t 16)) none, none, []⟩])
  (.seq [5, 4, 3, 0] (.region [⟨0, some 17, .a true (.mv (.t 0)) none, none, []⟩,
    ⟨1, some 18, .call false s_laws_toByteS p_laws_toByteS D_laws_toByteS [(.t 17)], none, []⟩,
    ⟨2, some 5, .a true (.mv (.t 18)) none, none, []⟩])
  (.seq [7, 6, 5, 4, 3, 0] (.region [⟨0, some 20, .a true (.mv (.t 5)) none, none, []⟩,
    ⟨1, some 21, .call false s_impl_UnpackAction p_impl_UnpackAction D_impl_UnpackAction [(.t 20)], none, []⟩,
    ⟨2, some 19, .a false (.mv (.t 21)) none, none, []⟩,
    ⟨3, some 22, .a false (.extract (.t 19) 0) none, none, []⟩,
    ⟨4, some 23, .a false (.extract (.t 19) 1) none, none, []⟩,
    ⟨5, some 6, .a false (.allocB 1 [(.int .i64 0), (.int .i64 0), (.int .i64 0), (.int .i64 0)]) none, none, []⟩,
    ⟨6, none, .a false (.storeB 1 4 (.t 6) (.t 22)) none, none, []⟩,
    ⟨7, some 7, .a false (.mv (.t 23)) none, none, []⟩])
  (.seq [5, 0] (.seq [32, 5, 0] (.region [⟨0, some 24, .a false (.loadB 1 (some 4) (.t 6)) none, none, []⟩,
    ⟨1, some 25, .a false (.loadB 0 (some 4) (.t 3)) none, none, []⟩,
    ⟨2, some 26, .call false s_laws_eqAction p_laws_eqAction D_laws_eqAction [(.t 24), (.t 25)], none, []⟩,
    ⟨3, some 27, .a false (.un .not (.t 26)) none, none, []⟩,
    ⟨4, some 28, .a false (.mv (.t 27)) none, none, []⟩,
    ⟨5, some 29, .a false (.mv (.t 7)) none, (some (28, false)), []⟩,
    ⟨6, some 30, .a false (.mv (.t 4)) none, (some (28, false)), []⟩,
    ⟨7, some 31, .a false (.eqB true (.t 29) (.t 30)) none, (some (28, false)), []⟩,
    ⟨8, some 32, .a false (.pick (.t 28) (.c (.bool true)) (.t 31)) none, none, []⟩])
  (.cond (.t 32) (.seq [2] (.region [⟨0, some 2, .a false (.mv (.c (.bool false))) none, none, []⟩])
  .ret) .skip))
  (.seq [] (.seq [37] (.region [⟨0, some 33, .a true (.mv (.t 5)) none, none, []⟩,
    ⟨1, some 34, .a true (.mv (.t 0)) none, none, []⟩,
    ⟨2, some 35, .call false s_laws_toByteS p_laws_toByteS D_laws_toByteS [(.t 34)], none, []⟩,
    ⟨3, some 36, .call false s_laws_eqByteS p_laws_eqByteS D_laws_eqByteS [(.t 33), (.t 35)], none, []⟩,
    ⟨4, some 37, .a false (.un .not (.t 36)) none, none, []⟩])
  (.cond (.t 37) (.seq [2] (.region [⟨0, some 2, .a false (.mv (.c (.bool false))) none, none, []⟩])
  .ret) .skip))
  (.seq [2] (.region [⟨0, some 2, .a false (.mv (.c (.bool true))) none, none, []⟩])
  .ret))))))))
noncomputable def df_laws_FnExactUnpackAction : DFun := ⟨1, 38, 2, true, [.tmp 2], dc_laws_FnExactUnpackAction⟩
noncomputable def pf_laws_FnExactUnpackAction : PFun := df_laws_FnExactUnpackAction.er
noncomputable def f_laws_FnExactUnpackAction : AFun := pf_laws_FnExactUnpackAction.er
@[irreducible] noncomputable def s_laws_FnExactUnpackAction : CallSem := funSem f_laws_FnExactUnpackAction
@[irreducible] noncomputable def p_laws_FnExactUnpackAction : PSem := pfunSem pf_laws_FnExactUnpackAction
theorem sp_laws_FnExactUnpackAction : SoundP s_laws_FnExactUnpackAction p_laws_FnExactUnpackAction := by unfold s_laws_FnExactUnpackAction p_laws_FnExactUnpackAction; exact pfun_sound (f := pf_laws_FnExactUnpackAction) ⟨sp_laws_toByteS, sp_spec_UnpackAction, sp_laws_toByteS, sp_impl_UnpackAction, sp_laws_eqAction, sp_laws_toByteS, sp_laws_eqByteS, trivial⟩
def h_laws_FnExactUnpackAction : List HT := [.one .frz (.sl (.one (.int .u8)))]
def q_laws_FnExactUnpackAction : QT := .one (.one .own (.bool))
@[irreducible] noncomputable def v_laws_FnExactUnpackAction (x : List (Int)) : Bool := fnV df_laws_FnExactUnpackAction h_laws_FnExactUnpackAction q_laws_FnExactUnpackAction x
@[irreducible] noncomputable def ok_laws_FnExactUnpackAction (x : List (Int)) : Prop := fnOk df_laws_FnExactUnpackAction h_laws_FnExactUnpackAction q_laws_FnExactUnpackAction x
noncomputable def D_laws_FnExactUnpackAction : DSem := DSemOf h_laws_FnExactUnpackAction q_laws_FnExactUnpackAction ok_laws_FnExactUnpackAction v_laws_FnExactUnpackAction
theorem ck_laws_FnExactUnpackAction (x : List (Int)) : fnChk df_laws_FnExactUnpackAction h_laws_FnExactUnpackAction q_laws_FnExactUnpackAction x = true := by kernel_rfl
theorem ob_laws_FnExactUnpackAction : AllD df_laws_FnExactUnpackAction.body.obs := ⟨sd_laws_toByteS, sd_spec_UnpackAction, sd_laws_toByteS, sd_impl_UnpackAction, sd_laws_eqAction, sd_laws_toByteS, sd_laws_eqByteS, trivial⟩
theorem st_laws_FnExactUnpackAction : fnSt df_laws_FnExactUnpackAction h_laws_FnExactUnpackAction q_laws_FnExactUnpackAction = true := by kernel_rfl
theorem sd_laws_FnExactUnpackAction : SoundD p_laws_FnExactUnpackAction D_laws_FnExactUnpackAction := by unfold p_laws_FnExactUnpackAction; exact soundD_of (f := df_laws_FnExactUnpackAction) (hs := h_laws_FnExactUnpackAction) (q := q_laws_FnExactUnpackAction) ob_laws_FnExactUnpackAction st_laws_FnExactUnpackAction ck_laws_FnExactUnpackAction (fun x h => by unfold ok_laws_FnExactUnpackAction at h; exact h) (fun x => by unfold v_laws_FnExactUnpackAction; rfl)

end Go.Ag
